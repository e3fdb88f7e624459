import Derived.Test.YtlgolgpellbnbaaGreatBase
import Derived.KernelRfl
namespace Go.Proofs.YtlgolgpellbnbaaGreat
open Go.Sx Go.RowKit
set_option maxRecDepth 100000

def h_ref23_Waiting : H := (.seq .reg (.seq (.seq .reg (.cond (.seq .reg .leaf) .leaf)) (.seq .reg (.seq (.seq .reg (.block (.loop [(3, .p (.int .i64)), (4, .p (.int .i64))] [3, 4, 11, 12, 13, 14, 15, 16, 17, 18, 19, 20, 21, 22, 23, 24, 25] (.seq (.seq .reg (.cond .leaf .leaf)) (.seq (.block .reg) .reg))))) (.seq .reg .leaf)))))
def F_ref23_Waiting (c_0 c_1 : Int) (c_2_a : OA) (c_2_l c_2_c : Nat) (c_3 : Int) (w : World) (R : Value → WP) : Prop :=
 (kAlloc w #[(Iv c_0), (Iv c_1), (.slice c_2_a c_2_l c_2_c), (Iv c_3)] Ty_api_Cutter fun r n =>
 (∃ e f : Int, ∃ a : OA, ∃ c b : Nat, ∃ g : Int, cellsAt n ⟨r, 0, none⟩ 0 [(Iv e), (Iv f), (.slice a c b), (Iv g)] ∧
 (CP N_ref23_Valid #[(.agg #[Iv e, Iv f, .slice a c b, Iv g])] n fun u h =>
 ∃ x : Bool, u = .returned (.bool x) ∧
 (bsplit (!x)
 (R (Iv (0 : Int)) h)
 ((kLd h ⟨r, 3, none⟩ .i64 fun y =>
 (kW .i64 (0 - y) fun v =>
 (∃ m : Int → Int → Nat × (WP), (m v (0 : Int)).2 h ∧
 (∀ (_ : Env) (s : Int) (l : Int) (d : World), (m s l).2 d →
 (kLdS d ⟨r, 2, none⟩ fun _ q _ =>
 (bsplit (decide (l < (q : Int)))
 ((kLdS d ⟨r, 2, none⟩ fun i j _ =>
 (kIx i j l fun t =>
 (kLdS d (t.add (l.toNat * 1)) fun _ k _ =>
 (kW .i64 (s + (k : Int)) fun o =>
 (kW .i64 (l + (1 : Int)) fun p =>
 ((m o p).2 d ∧ (m o p).1 < (m s l).1)))))))
 (R (Iv s) d))))))))))))
theorem F_ref23_Waiting_ok {R : EP} (c_0 c_1 : Int) (c_2_a : OA) (c_2_l c_2_c : Nat) (c_3 : Int) (w : World) (h : F_ref23_Waiting c_0 c_1 c_2_a c_2_l c_2_c c_3 w fun v w' => R (.returned v) w') : CP N_ref23_Waiting #[(.agg #[Iv c_0, Iv c_1, .slice c_2_a c_2_l c_2_c, Iv c_3])] w R :=
 calls_of (k := TTk) (h := h_ref23_Waiting) (f := 30) follows_ok Tryz.func30 (Eq.mpr (by kernel_rfl) h)

def h_own_Receiver : H := (.seq .reg (.seq .reg (.seq (.seq .reg (.block (.loop [(12, .p (.int .i64))] [3, 4, 12, 13, 14, 15, 16, 17, 18, 19, 20, 21, 22, 23, 24, 25, 26, 27, 28, 29, 30, 31, 32, 33] (.seq .reg (.seq (.cond .leaf .leaf) (.seq (.block (.seq .reg (.draw .blk (.one 0 .stable (.one 1 .stable (.one 2 .stable (.one 3 .stable (.one 4 .stable (.one 5 .stable (.one 6 .pre (.one 7 .pre (.one 9 .stable (.one 10 .stable (.one 8 .keep (.one 11 .keep (.one 12 .stable (.one 13 .stable (.one 14 .keep (.one 15 .stable (.one 16 .stable (.one 17 .last .nil))))))))))))))))))))) .reg)))))) (.seq .reg .leaf))))
def F_own_Receiver (r_0 r_1 r_2 r_3 r_4 r_5 r_6 r_7 r_8 r_9 r_10 r_11 : Int) (r_12 : Bool) (r_13_a : OA) (r_13_l r_13_c : Nat) (w : World) (R : Value → WP) : Prop :=
 (kAlloc w #[(Iv r_0), (Iv r_1), (Iv r_2), (Iv r_3), (Iv r_4), (Iv r_5), (Iv r_6), (Iv r_7), (Iv r_8), (Iv r_9), (Iv r_10), (Iv r_11), (.bool r_12), (.slice r_13_a r_13_l r_13_c)] Ty_api_Receiver fun ar b3 =>
 (kAlloc b3 #[Iv (0 : Int), Iv (0 : Int), Iv (0 : Int), Iv (0 : Int), Iv (0 : Int), Iv (0 : Int), Iv (0 : Int), Iv (0 : Int), Iv (0 : Int), Iv (0 : Int), Iv (0 : Int), Iv (0 : Int), .bool false, .slice none 0 0] Ty_api_Receiver fun bn br =>
 (kLdS br ⟨ar, 13, none⟩ fun bv bx bw =>
 (CP N_slices_Clone_Sapi_Partial_api_Partial #[(.slice bv bx bw)] br fun b2 b4 =>
 ∃ au : OA, ∃ aw av : Nat, b2 = .returned (.slice au aw av) ∧
 (kSet b4 ⟨ar, 13, none⟩ (.slice au aw av) fun bs =>
 (kLdS bs ⟨ar, 13, none⟩ fun ba ao _ =>
 (∃ bm : Int → Nat × (WP), (bm (0 : Int)).2 bs ∧
 (∀ (_ : Env) (ap : Int) (ai : World), (bm ap).2 ai →
 (bsplit (decide (ap < (ao : Int)))
 ((kIx ba ao ap fun bz =>
 (∃ a0 : Int, ∃ a1 : Bool, ∃ a2 : Int, ∃ l : OA, ∃ n m : Nat, ∃ o : OA, ∃ q p : Nat, cellsAt ai (bz.add (ap.toNat * 5)) 0 [(Iv a0), (.bool a1), (Iv a2), (.slice l n m), (.slice o q p)] ∧
 (kAlloc ai #[Iv (0 : Int), .bool false, Iv (0 : Int), .slice none 0 0, .slice none 0 0] Ty_api_Partial fun aq b5 =>
 (sxStore b5 ⟨aq, 0, none⟩ 0 [(Iv a0), (.bool a1), (Iv a2), (.slice l n m), (.slice o q p)] fun b6 =>
 (kDrew b6 fun d =>
 (∃ bl : Nat → Prop,
 (bl ar ∧
 (kLdS d ⟨ar, 13, none⟩ fun bb bh _ =>
 (bl ar ∧
 (kLdS d ⟨ar, 13, none⟩ fun bc bi _ =>
 (kLdS d ⟨aq, 3, none⟩ fun bd bj bf =>
 (bl aq ∧
 (kLdS d ⟨aq, 4, none⟩ fun be bk bg =>
 (CP N_slices_Clone_Sbyte_byte #[(.slice bd bj bf)] d fun bo bt =>
 ∃ ac : OA, ∃ ag ae : Nat, bo = .returned (.slice ac ag ae) ∧
 (KeepsB bl d bt ∧ (CP N_slices_Clone_Sapi_Range_api_Range #[(.slice be bk bg)] bt fun bp ax =>
 ∃ ad : OA, ∃ ah af : Nat, bp = .returned (.slice ad ah af) ∧
 (KeepsB bl d ax ∧ (kIx bb bh ap fun b0 =>
 (kSet ax ((b0.add (ap.toNat * 5)).add 3) (.slice ac ag ae) fun ay =>
 (KeepsB bl d ay ∧ (kIx bc bi ap fun b1 =>
 (kSet ay ((b1.add (ap.toNat * 5)).add 4) (.slice ad ah af) fun bq =>
 (kW .i64 (ap + (1 : Int)) fun bu =>
 ((bm bu).2 bq ∧ (bm bu).1 < (bm ap).1)))))))))))))))))))))))))
 ((∃ aj al an a3 a4 a5 a6 a7 a8 a9 ak k : Int, ∃ am : Bool, ∃ e : OA, ∃ g f : Nat, cellsAt ai ⟨ar, 0, none⟩ 0 [(Iv aj), (Iv al), (Iv an), (Iv a3), (Iv a4), (Iv a5), (Iv a6), (Iv a7), (Iv a8), (Iv a9), (Iv ak), (Iv k), (.bool am), (.slice e g f)] ∧
 (sxStore ai ⟨bn, 0, none⟩ 0 [(Iv aj), (Iv al), (Iv an), (Iv a3), (Iv a4), (Iv a5), (Iv a6), (Iv a7), (Iv a8), (Iv a9), (Iv ak), (Iv k), (.bool am), (.slice e g f)] fun az =>
 (∃ r s t u v x y z aa ab h i : Int, ∃ j : Bool, ∃ a : OA, ∃ c b : Nat, cellsAt az ⟨bn, 0, none⟩ 0 [(Iv r), (Iv s), (Iv t), (Iv u), (Iv v), (Iv x), (Iv y), (Iv z), (Iv aa), (Iv ab), (Iv h), (Iv i), (.bool j), (.slice a c b)] ∧
 R (.agg #[Iv r, Iv s, Iv t, Iv u, Iv v, Iv x, Iv y, Iv z, Iv aa, Iv ab, Iv h, Iv i, .bool j, .slice a c b]) az)))))))))))))
theorem F_own_Receiver_ok {R : EP} (r_0 r_1 r_2 r_3 r_4 r_5 r_6 r_7 r_8 r_9 r_10 r_11 : Int) (r_12 : Bool) (r_13_a : OA) (r_13_l r_13_c : Nat) (w : World) (h : F_own_Receiver r_0 r_1 r_2 r_3 r_4 r_5 r_6 r_7 r_8 r_9 r_10 r_11 r_12 r_13_a r_13_l r_13_c w fun v w' => R (.returned v) w') : CP N_own_Receiver #[(.agg #[Iv r_0, Iv r_1, Iv r_2, Iv r_3, Iv r_4, Iv r_5, Iv r_6, Iv r_7, Iv r_8, Iv r_9, Iv r_10, Iv r_11, .bool r_12, .slice r_13_a r_13_l r_13_c])] w R :=
 calls_of (k := TTk) (h := h_own_Receiver) (f := 31) follows_ok Tryz.func31 (Eq.mpr (by kernel_rfl) h)

def h_receiver_Valid : H := (.seq .reg (.seq .reg (.cut [] [2, 8, 9, 10, 11, 12, 13, 14, 15, 16, 17, 18, 19, 20, 21, 22, 23, 24, 25, 26, 27, 28, 29, 30, 31, 32] (.seq .reg (.cond (.seq .reg .leaf) .leaf)) (.seq .reg (.seq (.cut [(69, .p .bool)] [37, 38, 39, 40, 41, 42, 43, 44, 45, 46, 47, 48, 49, 50, 51, 52, 53, 54, 55, 56, 57, 58, 59, 60, 61, 62, 63, 64, 65, 66, 67, 68, 69] .reg (.cond (.seq .reg .leaf) .leaf)) (.seq (.seq .reg (.cond (.seq .reg .leaf) .leaf)) (.seq .reg .leaf)))))))
def F_receiver_Valid (r_0 r_1 r_2 r_3 r_4 r_5 r_6 r_7 r_8 r_9 r_10 r_11 : Int) (r_12 : Bool) (r_13_a : OA) (r_13_l r_13_c : Nat) (w : World) (R : Value → WP) : Prop :=
 (kAlloc w #[(Iv r_0), (Iv r_1), (Iv r_2), (Iv r_3), (Iv r_4), (Iv r_5), (Iv r_6), (Iv r_7), (Iv r_8), (Iv r_9), (Iv r_10), (Iv r_11), (.bool r_12), (.slice r_13_a r_13_l r_13_c)] Ty_api_Receiver fun c a5 =>
 (∃ y z aa ab ac ad ae af ag ah m n : Int, ∃ o : Bool, ∃ e : OA, ∃ g f : Nat, cellsAt a5 ⟨c, 0, none⟩ 0 [(Iv y), (Iv z), (Iv aa), (Iv ab), (Iv ac), (Iv ad), (Iv ae), (Iv af), (Iv ag), (Iv ah), (Iv m), (Iv n), (.bool o), (.slice e g f)] ∧
 (kAlloc a5 #[(Iv y), (Iv z), (Iv aa), (Iv ab), (Iv ac), (Iv ad), (Iv ae), (Iv af), (Iv ag), (Iv ah), (Iv m), (Iv n), (.bool o), (.slice e g f)] Ty_receiver_side fun d a7 =>
 (∃ bu : WP,
 (∀ (_ : Env)  (al : World), bu al →
 (kLd al ⟨c, 7, none⟩ .i64 fun bo =>
 (CP N_receiver_side_place #[(.pointer (some ⟨d, 0, none⟩)), (Iv bo)] al fun ap v =>
 ∃ u : Int, ap = .returned (Iv u) ∧
 (∃ i : Bool → WP,
 (∀ (_ : Env) (x : Bool) (a : World), i x a →
 (bsplit x
 (R (.bool false) a)
 ((kLd a ⟨c, 9, none⟩ .i64 fun ba =>
 (bsplit (decide (ba = (-1 : Int)))
 ((kLd a ⟨c, 10, none⟩ .i64 fun bb =>
 (kLet (decide (bb = (0 : Int))) fun bc =>
 R (.bool bc) a)))
 ((kLd a ⟨c, 9, none⟩ .i64 fun bd =>
 (CP N_receiver_side_number #[(.pointer (some ⟨d, 0, none⟩)), (Iv bd)] a fun au j =>
 ∃ a2 : Bool, au = .returned (.bool a2) ∧
 (bsplit a2
 ((kLd j ⟨c, 9, none⟩ .i64 fun be =>
 (CP N_receiver_side_place #[(.pointer (some ⟨d, 0, none⟩)), (Iv be)] j fun av k =>
 ∃ a3 : Int, av = .returned (Iv a3) ∧
 (bsplit (decide (a3 ≥ (1 : Int)))
 ((kLd k ⟨c, 9, none⟩ .i64 fun bf =>
 (CP N_receiver_side_place #[(.pointer (some ⟨d, 0, none⟩)), (Iv bf)] k fun aw b =>
 ∃ a4 : Int, aw = .returned (Iv a4) ∧
 (bsplit (decide (a4 ≤ u))
 ((kLd b ⟨c, 10, none⟩ .i64 fun bg =>
 (bsplit (decide (bg ≥ (1 : Int)))
 ((kLd b ⟨c, 10, none⟩ .i64 fun bh =>
 (kLd b ⟨c, 3, none⟩ .i64 fun bi =>
 (kLet (decide (bh ≤ bi)) fun bj =>
 R (.bool bj) b))))
 (R (.bool false) b))))
 (R (.bool false) b)))))
 (R (.bool false) k)))))
 (R (.bool false) j)))))))))) ∧
 (kLd v ⟨c, 0, none⟩ .i64 fun bp =>
 (kW .i64 (bp - (1 : Int)) fun bk =>
 (0 ≤ bk ∧ (kW .i64 ((1 : Int) * 2 ^ (min bk.toNat (IntKind.bits .i64))) fun bq =>
 (bsplit (decide (u > bq))
 (i true v)
 ((kLd v ⟨c, 8, none⟩ .i64 fun br =>
 (CP N_receiver_side_place #[(.pointer (some ⟨d, 0, none⟩)), (Iv br)] v fun aq h =>
 ∃ a0 : Int, aq = .returned (Iv a0) ∧
 (bsplit (decide (a0 > u))
 (i true h)
 ((kLd h ⟨c, 11, none⟩ .i64 fun bs =>
 (bsplit (decide (bs < (0 : Int)))
 (i true h)
 ((kLd h ⟨c, 11, none⟩ .i64 fun bt =>
 (kLd h ⟨c, 4, none⟩ .i64 fun a9 =>
 (bsplit (decide (bt > a9))
 (i true h)
 ((CP N_receiver_side_partials #[(.pointer (some ⟨d, 0, none⟩))] h fun ar a6 =>
 ∃ a1 : Bool, ar = .returned (.bool a1) ∧
 i (!a1) a6)))))))))))))))))))))) ∧
 (∃ l p q r s t : Int, cellsAt a7 ⟨c, 0, none⟩ 0 [(Iv l), (Iv p), (Iv q), (Iv r), (Iv s), (Iv t)] ∧
 (CP N_sender_ValidLink #[(.agg #[Iv l, Iv p, Iv q, Iv r, Iv s, Iv t])] a7 fun bl ai =>
 ∃ bv : Bool, bl = .returned (.bool bv) ∧
 (bsplit (!bv)
 (R (.bool false) ai)
 ((kLd ai ⟨c, 6, none⟩ .i64 fun bw =>
 (CP N_receiver_side_number #[(.pointer (some ⟨d, 0, none⟩)), (Iv bw)] ai fun am aj =>
 ∃ ax : Bool, am = .returned (.bool ax) ∧
 (bsplit (!ax)
 (R (.bool false) aj)
 ((kLd aj ⟨c, 7, none⟩ .i64 fun bm =>
 (CP N_receiver_side_number #[(.pointer (some ⟨d, 0, none⟩)), (Iv bm)] aj fun an ak =>
 ∃ ay : Bool, an = .returned (.bool ay) ∧
 (bsplit (!ay)
 (R (.bool false) ak)
 ((kLd ak ⟨c, 8, none⟩ .i64 fun bn =>
 (CP N_receiver_side_number #[(.pointer (some ⟨d, 0, none⟩)), (Iv bn)] ak fun ao a8 =>
 ∃ az : Bool, ao = .returned (.bool az) ∧
 (bsplit (!az)
 (R (.bool false) a8)
 (bu a8))))))))))))))))))))
theorem F_receiver_Valid_ok {R : EP} (r_0 r_1 r_2 r_3 r_4 r_5 r_6 r_7 r_8 r_9 r_10 r_11 : Int) (r_12 : Bool) (r_13_a : OA) (r_13_l r_13_c : Nat) (w : World) (h : F_receiver_Valid r_0 r_1 r_2 r_3 r_4 r_5 r_6 r_7 r_8 r_9 r_10 r_11 r_12 r_13_a r_13_l r_13_c w fun v w' => R (.returned v) w') : CP N_receiver_Valid #[(.agg #[Iv r_0, Iv r_1, Iv r_2, Iv r_3, Iv r_4, Iv r_5, Iv r_6, Iv r_7, Iv r_8, Iv r_9, Iv r_10, Iv r_11, .bool r_12, .slice r_13_a r_13_l r_13_c])] w R :=
 calls_of (k := TTk) (h := h_receiver_Valid) (f := 32) follows_ok Tryz.func32 (Eq.mpr (by kernel_rfl) h)

def h_unack_expire : H := (.seq .reg (.seq .reg (.cut [(3, .p .addr)] [3, 5, 6, 7, 8, 9, 10] (.draw .blk (.one 0 .stable (.one 1 .stable (.one 2 .pur (.one 3 .pur (.one 4 .stable (.alt 5 (.one 6 .keep (.one 7 .last .nil)) (.alt 6 (.one 5 .keep (.one 7 .last .nil)) .endAlt)))))))) (.seq (.draw .blk (.one 0 .stable (.one 1 .pre (.one 2 .pur (.one 3 .pur (.one 4 .pre (.one 5 .pur (.one 6 .keep (.one 7 .pur (.one 8 .pur (.one 9 .last .nil))))))))))) (.seq (.draw .blk (.one 0 .pre (.one 1 .stable (.one 2 .pre (.one 3 .pur (.one 4 .pur (.one 5 .pre (.one 6 .pur (.one 7 .pur (.one 8 .keep (.one 9 .pur (.one 10 .pur (.one 11 .last .nil))))))))))))) (.cut [] [30, 31, 32, 33, 34, 35, 36, 37, 38, 39, 40, 41, 42, 43, 44, 45, 46, 47, 48, 49, 50, 51, 52, 53, 54, 55, 56, 57, 58, 59, 60, 61, 62, 63, 64, 65, 66, 67, 68, 69, 70, 71, 72, 73, 74, 75, 76, 77, 78, 79, 80] (.block (.loopG [] [30, 31, 32, 33, 34, 35, 36, 37, 38, 39, 40, 41, 42, 43, 44, 45, 46, 47, 48, 49, 50, 51, 52, 53, 54, 55, 56, 57, 58, 59, 60, 61, 62, 63, 64, 65, 66, 67, 68, 69, 70, 71, 72, 73, 74, 75, 76, 77, 78, 79, 80] (.cut [] [30, 31, 32, 33, 34, 35, 36, 37, 38, 39, 40, 41, 42, 43, 44, 45, 46, 47, 48, 49, 50, 51, 52, 53, 54, 55, 56, 57, 58] (.seq (.draw .no (.one 0 .stable (.one 1 .pur (.one 2 .pur (.one 3 .stable (.one 4 .pur (.one 5 .pur (.one 6 .pur (.one 7 .stable (.one 8 .pur (.one 9 .pur (.one 10 .stable (.one 11 .pur (.one 12 .pur (.one 13 .stable (.one 14 .stable (.one 15 .pur (.one 16 .pur (.one 17 .stable (.one 18 .pur (.one 19 .pur (.one 20 .pur (.one 21 .stable (.one 22 .pur (.one 23 .pur (.one 24 .stable (.one 25 .pur (.one 26 .pur (.one 27 .stable (.one 28 .pur .nil)))))))))))))))))))))))))))))) (.cond .leaf .leaf)) (.block (.seq (.draw .no (.one 0 .pre (.one 1 .pre (.one 2 .pur (.one 3 .pur (.one 4 .pre (.one 5 .pur (.one 6 .pur (.one 7 .pur (.one 8 .last .nil)))))))))) (.draw .blk (.one 0 .stable (.one 1 .pre (.one 2 .pur (.one 3 .pur (.one 4 .pur (.one 5 .pre (.one 6 .pre (.one 7 .pur (.one 8 .pur (.one 9 .pre (.one 10 .pur (.one 11 .keep (.one 12 .pur (.one 13 .pur (.one 14 .last .nil))))))))))))))))))))) (.seq (.draw .no (.one 0 .stable (.one 1 .pur (.one 2 .pur (.one 3 .stable (.one 4 .stable (.one 5 .pur (.one 6 .pur (.one 7 .stable (.one 8 .pur .nil)))))))))) (.cond (.draw .blk (.one 0 .pre (.one 1 .stable (.one 2 .pre (.one 3 .pur (.one 4 .pur (.one 5 .pre (.one 6 .pre (.one 7 .pur (.one 8 .pur (.one 9 .pur (.one 10 .pre (.one 11 .pur (.one 12 .pur (.one 13 .keep (.one 14 .pur (.one 15 .pur (.one 16 .last .nil)))))))))))))))))) .leaf))))))))
def F_unack_expire (r_b r_o : Nat) (w : World) (R : Value → WP) : Prop :=
 (kAlloc w #[(.pointer (some ⟨r_b, r_o, none⟩))] Ty_P_api_Receiver fun b cw =>
 (kAlloc cw #[.nilFunc] Ty_func_int_int fun q cx =>
 (kSet cx ⟨q, 0, none⟩ (.func (.func N_unack_expire_1) #[] #[(.pointer (some ⟨b, 0, none⟩))]) fun cy =>
 (∃ cs : Addr → WP,
 (∀ (_ : Env) (k : Addr) (u : World), cs k u →
 (kDrew u fun h =>
 (∃ a3 : Nat → Prop,
 (a3 b ∧
 (∃ b4 : OA, h.cell? ⟨b, 0, none⟩ = some (.pointer b4) ∧
 (∃ cc : OA, h.cell? ⟨b, 0, none⟩ = some (.pointer cc) ∧
 (kNil cc fun c0 =>
 (kLdS h (c0.add 13) fun cp cq ay =>
 (CP N_slices_DeleteFunc_Sapi_Partial_api_Partial #[(.slice cp cq ay), (.func (.func N_unack_expire_2) #[] #[(.pointer (some ⟨q, 0, none⟩)), (.pointer (some k))])] h fun ba v =>
 ∃ r : OA, ∃ t s : Nat, ba = .returned (.slice r t s) ∧
 (KeepsB a3 h v ∧ (kNil b4 fun c1 =>
 (kSet v (c1.add 13) (.slice r t s) fun bf =>
 (kDrew bf fun e =>
 (∃ a4 : Nat → Prop,
 (∃ cm : OA, e.cell? ⟨b, 0, none⟩ = some (.pointer cm) ∧
 (a4 b ∧
 (∃ cn : OA, e.cell? ⟨b, 0, none⟩ = some (.pointer cn) ∧
 (∃ co : OA, e.cell? ⟨b, 0, none⟩ = some (.pointer co) ∧
 (kNil co fun bp =>
 (kLd e (bp.add 9) .i64 fun bq =>
 (kNil cm fun br =>
 (kSet e (br.add 6) (Iv bq) fun x =>
 (KeepsB a4 e x ∧ (kNil cn fun bs =>
 (kSet x (bs.add 9) (Iv (-1 : Int)) fun bg =>
 (∃ p : WP,
 (∀ (_ : Env)  (ab : World), p ab →
 (kDrew ab fun f =>
 (∃ am : OA, f.cell? ⟨b, 0, none⟩ = some (.pointer am) ∧
 (kNil am fun cb =>
 (kLd f (cb.add 6) .i64 fun cd =>
 (∃ an : OA, f.cell? ⟨b, 0, none⟩ = some (.pointer an) ∧
 (kNil an fun ce =>
 (kLd f (ce.add 7) .i64 fun cf =>
 (bsplit (!decide (cd = cf))
 ((kDrew f fun c =>
 (∃ a6 : Nat → Prop,
 (∃ ao : OA, c.cell? ⟨b, 0, none⟩ = some (.pointer ao) ∧
 (a6 b ∧
 (∃ ap : OA, c.cell? ⟨b, 0, none⟩ = some (.pointer ap) ∧
 (∃ aq : OA, c.cell? ⟨b, 0, none⟩ = some (.pointer aq) ∧
 (kNil aq fun cg =>
 (kLd c (cg.add 7) .i64 fun ch =>
 (∃ ar : OA, c.cell? ⟨b, 0, none⟩ = some (.pointer ar) ∧
 (kNil ar fun ci =>
 (kLd c (ci.add 3) .i64 fun cj =>
 (kNil ao fun ck =>
 (kSet c (ck.add 9) (Iv ch) fun ac =>
 (KeepsB a6 c ac ∧ (kNil ap fun cl =>
 (kSet ac (cl.add 10) (Iv cj) fun bj =>
 R (.tuple #[]) bj)))))))))))))))))
 (R (.tuple #[]) f)))))))))) ∧
 (∃ cr : Nat → WP, (∃ m' : Nat, cr m' bg) ∧
 (∀ (_ : Env)  (c2 : Nat) (y : World), cr c2 y →
 (∃ a2 : WP,
 (∀ (_ : Env)  (z : World), a2 z →
 (kDrew z fun j =>
 (∃ ah : OA, j.cell? ⟨b, 0, none⟩ = some (.pointer ah) ∧
 (∃ ai : OA, j.cell? ⟨b, 0, none⟩ = some (.pointer ai) ∧
 (kNil ai fun b2 =>
 (kLdS j (b2.add 13) fun ax o m =>
 ((0 ≤ (1 : Int) ∧ (1 : Int) ≤ ((o : Nat) : Int)) ∧ (kNil ah fun b3 =>
 (kSet j (b3.add 13) (.slice (slAddr m ((1 : Int).toNat) 5 ax) (o - (1 : Int).toNat) (m - (1 : Int).toNat)) fun bh =>
 (kDrew bh fun d =>
 (∃ a5 : Nat → Prop,
 (a5 b ∧
 (∃ aj : OA, d.cell? ⟨b, 0, none⟩ = some (.pointer aj) ∧
 (∃ ak : OA, d.cell? ⟨b, 0, none⟩ = some (.pointer ak) ∧
 (kNil ak fun b5 =>
 (kLd d b5 .i64 fun b6 =>
 (∃ al : OA, d.cell? ⟨b, 0, none⟩ = some (.pointer al) ∧
 (kNil al fun b7 =>
 (kLd d (b7.add 6) .i64 fun b8 =>
 (kW .i64 (b8 + (1 : Int)) fun b9 =>
 (CP N_serial_Low #[(Iv b6), (Iv b9)] d fun bb aa =>
 ∃ bd : Int, bb = .returned (Iv bd) ∧
 (KeepsB a5 d aa ∧ (kNil aj fun ca =>
 (kSet aa (ca.add 6) (Iv bd) fun bi =>
 (∃ m' : Nat, m' < c2 ∧ cr m' bi))))))))))))))))))))))))) ∧
 (kDrew y fun a =>
 (∃ ad : OA, a.cell? ⟨b, 0, none⟩ = some (.pointer ad) ∧
 (kNil ad fun bt =>
 (kLdS a (bt.add 13) fun _ az _ =>
 (bsplit (decide ((az : Int) > (0 : Int)))
 ((∃ ae : OA, a.cell? ⟨b, 0, none⟩ = some (.pointer ae) ∧
 (kNil ae fun bu =>
 (kLdS a (bu.add 13) fun av a0 _ =>
 (kIx av a0 (0 : Int) fun ct =>
 (kLd a (ct.add ((0 : Int).toNat * 5)) .i64 fun bv =>
 (∃ af : OA, a.cell? ⟨b, 0, none⟩ = some (.pointer af) ∧
 (kNil af fun bx =>
 (kLd a (bx.add 6) .i64 fun bz =>
 (bsplit (decide (bv = bz))
 ((∃ ag : OA, a.cell? ⟨b, 0, none⟩ = some (.pointer ag) ∧
 (kNil ag fun b0 =>
 (kLdS a (b0.add 13) fun aw a1 _ =>
 (kIx aw a1 (0 : Int) fun cu =>
 (kLdB a ((cu.add ((0 : Int).toNat * 5)).add 1) fun b1 =>
 (bsplit b1
 (a2 a)
 (p a))))))))
 (p a)))))))))))
 (p a))))))))))))))))))))))))))))))))))) ∧
 (kDrew cy fun g =>
 (∃ au : Nat → Prop,
 (au q ∧
 (∃ i : Nat, ∃ n : Array Value, ∃ l : Array Value, g.cell? ⟨q, 0, none⟩ = some (.func (.func i) n l) ∧
 (au b ∧
 (∃ c4 : OA, g.cell? ⟨b, 0, none⟩ = some (.pointer c4) ∧
 (kNil c4 fun bo =>
 (au (bo.add 9).block ∧
 (kLd g (bo.add 9) .i64 fun bw =>
 ((okFn Tryz.prog i = true ∧ CP i (n ++ #[(Iv bw)] ++ l) g fun a9 bm =>
 ∃ bc : Int, a9 = .returned (Iv bc) ∧
 (KeepsB au g bm ∧ (kAlloc bm #[Iv (0 : Int)] Ty_int fun a8 bn =>
 (KeepsB au g bn ∧ (kSet bn ⟨a8, 0, none⟩ (Iv bc) fun be =>
 cs ⟨a8, 0, none⟩ be))))) ∧
 ((kAlloc g #[Iv (0 : Int)] Ty_int fun a7 bk =>
 (KeepsB au g bk ∧ (okFn Tryz.prog i = true ∧ CP i (n ++ #[(Iv bw)] ++ l) bk fun cv bl =>
 ∃ c3 : Int, cv = .returned (Iv c3) ∧
 (KeepsB au g bl ∧ (kSet bl ⟨a7, 0, none⟩ (Iv c3) fun cz =>
 cs ⟨a7, 0, none⟩ cz))))) ∧
 True)))))))))))))))
theorem F_unack_expire_ok {R : EP} (r_b r_o : Nat) (w : World) (h : F_unack_expire r_b r_o w fun v w' => R (.returned v) w') : CP N_unack_expire #[(.pointer (some ⟨r_b, r_o, none⟩))] w R :=
 calls_of (k := TTk) (h := h_unack_expire) (f := 33) follows_ok Tryz.func33 (Eq.mpr (by kernel_rfl) h)

def h_unack_plain : H := (.seq .reg (.seq .reg (.seq .reg .leaf)))
def F_unack_plain (r_0 r_1 r_2 r_3 r_4 r_5 r_6 r_7 r_8 r_9 r_10 r_11 : Int) (r_12 : Bool) (r_13_a : OA) (r_13_l r_13_c : Nat) (w : World) (R : Value → WP) : Prop :=
 (kAlloc w #[(Iv r_0), (Iv r_1), (Iv r_2), (Iv r_3), (Iv r_4), (Iv r_5), (Iv r_6), (Iv r_7), (Iv r_8), (Iv r_9), (Iv r_10), (Iv r_11), (.bool r_12), (.slice r_13_a r_13_l r_13_c)] Ty_api_Receiver fun al am =>
 (kAlloc am #[Iv (0 : Int), Iv (0 : Int), Iv (0 : Int), Iv (0 : Int), Iv (0 : Int), Iv (0 : Int), Iv (0 : Int), Iv (0 : Int), Iv (0 : Int), Iv (0 : Int), Iv (0 : Int), Iv (0 : Int), .bool false, .slice none 0 0] Ty_api_Receiver fun ah ai =>
 (kLd ai ⟨al, 6, none⟩ .i64 fun ao =>
 (kSet ai ⟨al, 12, none⟩ (.bool false) fun an =>
 (kSet an ⟨al, 8, none⟩ (Iv ao) fun aj =>
 (∃ x y z aa ab ac ad ae af ag t u : Int, ∃ v : Bool, ∃ d : OA, ∃ f e : Nat, cellsAt aj ⟨al, 0, none⟩ 0 [(Iv x), (Iv y), (Iv z), (Iv aa), (Iv ab), (Iv ac), (Iv ad), (Iv ae), (Iv af), (Iv ag), (Iv t), (Iv u), (.bool v), (.slice d f e)] ∧
 (sxStore aj ⟨ah, 0, none⟩ 0 [(Iv x), (Iv y), (Iv z), (Iv aa), (Iv ab), (Iv ac), (Iv ad), (Iv ae), (Iv af), (Iv ag), (Iv t), (Iv u), (.bool v), (.slice d f e)] fun ak =>
 (∃ j k l m n o p q r s g h : Int, ∃ i : Bool, ∃ a : OA, ∃ c b : Nat, cellsAt ak ⟨ah, 0, none⟩ 0 [(Iv j), (Iv k), (Iv l), (Iv m), (Iv n), (Iv o), (Iv p), (Iv q), (Iv r), (Iv s), (Iv g), (Iv h), (.bool i), (.slice a c b)] ∧
 R (.agg #[Iv j, Iv k, Iv l, Iv m, Iv n, Iv o, Iv p, Iv q, Iv r, Iv s, Iv g, Iv h, .bool i, .slice a c b]) ak))))))))
theorem F_unack_plain_ok {R : EP} (r_0 r_1 r_2 r_3 r_4 r_5 r_6 r_7 r_8 r_9 r_10 r_11 : Int) (r_12 : Bool) (r_13_a : OA) (r_13_l r_13_c : Nat) (w : World) (h : F_unack_plain r_0 r_1 r_2 r_3 r_4 r_5 r_6 r_7 r_8 r_9 r_10 r_11 r_12 r_13_a r_13_l r_13_c w fun v w' => R (.returned v) w') : CP N_unack_plain #[(.agg #[Iv r_0, Iv r_1, Iv r_2, Iv r_3, Iv r_4, Iv r_5, Iv r_6, Iv r_7, Iv r_8, Iv r_9, Iv r_10, Iv r_11, .bool r_12, .slice r_13_a r_13_l r_13_c])] w R :=
 calls_of (k := TTk) (h := h_unack_plain) (f := 34) follows_ok Tryz.func34 (Eq.mpr (by kernel_rfl) h)

def h_ref21_Valid : H := (.seq .reg (.seq (.seq .reg (.cond (.seq .reg .leaf) .leaf)) (.seq .reg (.seq (.cut [(60, .p .bool)] [17, 18, 19, 20, 21, 22, 23, 24, 25, 26, 27, 28, 29, 30, 31, 32, 33, 34, 35, 36, 37, 38, 39, 40, 41, 42, 43, 44, 45, 46, 47, 48, 49, 50, 51, 52, 53, 54, 55, 56, 57, 58, 59, 60] .reg (.cond (.seq .reg .leaf) .leaf)) (.seq .reg (.cut [] [2, 65, 66, 67, 68, 69, 70, 71, 72, 73, 74, 75, 76] (.seq .reg (.cond (.seq .reg .leaf) .leaf)) (.seq (.cut [(128, .p .bool)] [77, 78, 79, 80, 81, 82, 83, 84, 85, 86, 87, 88, 89, 90, 91, 92, 93, 94, 95, 96, 97, 98, 99, 100, 101, 102, 103, 104, 105, 106, 107, 108, 109, 110, 111, 112, 113, 114, 115, 116, 117, 118, 119, 120, 121, 122, 123, 124, 125, 126, 127, 128] .reg (.cond (.seq .reg .leaf) .leaf)) (.seq .reg (.seq (.seq .reg (.block (.loop [(5, .p (.int .i64)), (6, .p (.int .i64))] [2, 5, 6, 7, 129, 130, 131, 132, 133, 134, 135, 136, 137, 138, 139, 140, 141, 142, 143, 144, 145, 146, 147, 148, 149, 150, 151, 152, 153, 154, 155, 156, 157, 158, 159, 160, 161, 162, 163, 164, 165, 166, 167, 168, 169, 170, 171, 172, 173, 174, 175, 176, 177, 178, 179, 180, 181, 182, 183, 184, 185, 186, 187, 188, 189, 190, 191, 192, 193, 194, 195, 196, 197, 198, 199, 200, 201, 202, 203, 204, 205] (.seq (.seq .reg (.cond .leaf .leaf)) (.seq (.block (.seq .reg (.cut [] [2, 141, 142, 143, 144, 145, 146, 147, 148, 149, 150, 151, 152, 153, 154, 155, 156, 157, 158, 159, 160, 161, 162, 163, 164, 165] (.seq .reg (.cond (.seq .reg .leaf) .leaf)) (.seq .reg (.cut [(205, .p .bool)] [170, 171, 172, 173, 174, 175, 176, 177, 178, 179, 180, 181, 182, 183, 184, 185, 186, 187, 188, 189, 190, 191, 192, 193, 194, 195, 196, 197, 198, 199, 200, 201, 202, 203, 204, 205] .reg (.cond (.seq .reg .leaf) .leaf)))))) .reg))))) (.seq .reg .leaf))))))))))
def F_ref21_Valid (r_0 r_1 r_2 r_3 r_4 r_5 r_6 r_7 r_8 r_9 r_10 r_11 : Int) (r_12 : Bool) (r_13_a : OA) (r_13_l r_13_c : Nat) (w : World) (R : Value → WP) : Prop :=
 (kAlloc w #[(Iv r_0), (Iv r_1), (Iv r_2), (Iv r_3), (Iv r_4), (Iv r_5), (Iv r_6), (Iv r_7), (Iv r_8), (Iv r_9), (Iv r_10), (Iv r_11), (.bool r_12), (.slice r_13_a r_13_l r_13_c)] Ty_api_Receiver fun c f7 =>
 (∃ e6 e7 e8 e9 fa fb : Int, cellsAt f7 ⟨c, 0, none⟩ 0 [(Iv e6), (Iv e7), (Iv e8), (Iv e9), (Iv fa), (Iv fb)] ∧
 (CP N_ref20_ValidLink #[(.agg #[Iv e6, Iv e7, Iv e8, Iv e9, Iv fa, Iv fb])] f7 fun hf d =>
 ∃ hn : Bool, hf = .returned (.bool hn) ∧
 (bsplit (!hn)
 (R (.bool false) d)
 ((kLd d ⟨c, 0, none⟩ .i64 fun ho =>
 (kW .u64 (ho) fun gc =>
 (0 ≤ gc ∧ (kW .i64 ((1 : Int) * 2 ^ (min gc.toNat (IntKind.bits .i64))) fun a3 =>
 (∃ ev : Bool → WP,
 (∀ (_ : Env) (e2 : Bool) (ce : World), ev e2 ce →
 (bsplit e2
 (R (.bool false) ce)
 ((∃ cf cp cy c7 dg dq fc fd fe ff co bi : Int, ∃ cq : Bool, ∃ al : OA, ∃ an am : Nat, cellsAt ce ⟨c, 0, none⟩ 0 [(Iv cf), (Iv cp), (Iv cy), (Iv c7), (Iv dg), (Iv dq), (Iv fc), (Iv fd), (Iv fe), (Iv ff), (Iv co), (Iv bi), (.bool cq), (.slice al an am)] ∧
 (kLd ce ⟨c, 7, none⟩ .i64 fun gf =>
 (CP N_ref21_place #[(.agg #[Iv cf, Iv cp, Iv cy, Iv c7, Iv dg, Iv dq, Iv fc, Iv fd, Iv fe, Iv ff, Iv co, Iv bi, .bool cq, .slice al an am]), (Iv gf)] ce fun fr ew =>
 ∃ a2 : Int, fr = .returned (Iv a2) ∧
 (∃ fp : WP,
 (∀ (_ : Env)  (b : World), fp b →
 (∃ e : Bool → WP,
 (∀ (_ : Env) (e3 : Bool) (cc : World), e e3 cc →
 (bsplit e3
 (R (.bool false) cc)
 ((∃ fo : Int → Int → Nat × (WP), (fo (-1 : Int) (0 : Int)).2 cc ∧
 (∀ (_ : Env) (aj : Int) (fn : Int) (i : World), (fo aj fn).2 i →
 (kLdS i ⟨c, 13, none⟩ fun _ hd _ =>
 (bsplit (decide (fn < (hd : Int)))
 ((kLdS i ⟨c, 13, none⟩ fun fj fk _ =>
 (kIx fj fk fn fun he =>
 (∃ cl : Int, ∃ cw : Bool, ∃ c4 : Int, ∃ b5 : OA, ∃ b7 b6 : Nat, ∃ b8 : OA, ∃ ca b9 : Nat, cellsAt i (he.add (fn.toNat * 5)) 0 [(Iv cl), (.bool cw), (Iv c4), (.slice b5 b7 b6), (.slice b8 ca b9)] ∧
 (kAlloc i #[Iv (0 : Int), .bool false, Iv (0 : Int), .slice none 0 0, .slice none 0 0] Ty_api_Partial fun f f8 =>
 (sxStore f8 ⟨f, 0, none⟩ 0 [(Iv cl), (.bool cw), (Iv c4), (.slice b5 b7 b6), (.slice b8 ca b9)] fun g =>
 (∃ fq : WP,
 (∀ (_ : Env)  (a5 : World), fq a5 →
 (∃ a6 bq b2 df dp dy d6 ee em eu bg ak : Int, ∃ b0 : Bool, ∃ q : OA, ∃ ah z : Nat, cellsAt a5 ⟨c, 0, none⟩ 0 [(Iv a6), (Iv bq), (Iv b2), (Iv df), (Iv dp), (Iv dy), (Iv d6), (Iv ee), (Iv em), (Iv eu), (Iv bg), (Iv ak), (.bool b0), (.slice q ah z)] ∧
 (kLd a5 ⟨f, 0, none⟩ .i64 fun g4 =>
 (CP N_ref21_place #[(.agg #[Iv a6, Iv bq, Iv b2, Iv df, Iv dp, Iv dy, Iv d6, Iv ee, Iv em, Iv eu, Iv bg, Iv ak, .bool b0, .slice q ah z]), (Iv g4)] a5 fun fz a =>
 ∃ fi : Int, fz = .returned (Iv fi) ∧
 (∃ ai : Bool → WP,
 (∀ (_ : Env) (e4 : Bool) (cd : World), ai e4 cd →
 (bsplit e4
 (R (.bool false) cd)
 ((kW .i64 (fn + (1 : Int)) fun e5 =>
 ((fo fi e5).2 cd ∧ (fo fi e5).1 < (fo aj fn).1))))) ∧
 (kLdB a ⟨f, 1, none⟩ fun g5 =>
 (bsplit g5
 ((kLd a ⟨f, 0, none⟩ .i64 fun g6 =>
 (kLd a ⟨c, 6, none⟩ .i64 fun g7 =>
 (bsplit (decide (g6 = g7))
 (ai true a)
 ((kLd a ⟨f, 2, none⟩ .i64 fun g8 =>
 (bsplit (!decide (g8 = (0 : Int)))
 (ai true a)
 ((kLdS a ⟨f, 3, none⟩ fun _ fl _ =>
 (bsplit (decide ((fl : Int) > (0 : Int)))
 (ai true a)
 ((kLdS a ⟨f, 4, none⟩ fun _ fm _ =>
 (bsplit (decide ((fm : Int) > (0 : Int)))
 (ai true a)
 ((kLdB a ⟨f, 1, none⟩ fun g9 =>
 (bsplit (!g9)
 ((∃ a7 : Int, ∃ br : Bool, ∃ b3 : Int, ∃ ao : OA, ∃ au aq : Nat, ∃ aw : OA, ∃ a0 ay : Nat, cellsAt a ⟨f, 0, none⟩ 0 [(Iv a7), (.bool br), (Iv b3), (.slice ao au aq), (.slice aw a0 ay)] ∧
 (CP N_ref21_partial #[(.agg #[Iv a7, .bool br, Iv b3, .slice ao au aq, .slice aw a0 ay])] a fun fg f9 =>
 ∃ ez : Bool, fg = .returned (.bool ez) ∧
 ai (!ez) f9)))
 (ai false a)))))))))))))))))
 ((kLdB a ⟨f, 1, none⟩ fun ha =>
 (bsplit (!ha)
 ((∃ a8 : Int, ∃ b1 : Bool, ∃ b4 : Int, ∃ ap : OA, ∃ av ar : Nat, ∃ ax : OA, ∃ a1 az : Nat, cellsAt a ⟨f, 0, none⟩ 0 [(Iv a8), (.bool b1), (Iv b4), (.slice ap av ar), (.slice ax a1 az)] ∧
 (CP N_ref21_partial #[(.agg #[Iv a8, .bool b1, Iv b4, .slice ap av ar, .slice ax a1 az])] a fun fh ga =>
 ∃ e0 : Bool, fh = .returned (.bool e0) ∧
 ai (!e0) ga)))
 (ai false a))))))))))) ∧
 (kLd g ⟨f, 0, none⟩ .i64 fun g0 =>
 (bsplit (decide (g0 < (0 : Int)))
 (R (.bool false) g)
 ((kLd g ⟨f, 0, none⟩ .i64 fun g1 =>
 (bsplit (decide (g1 ≥ a3))
 (R (.bool false) g)
 ((∃ cm cx c5 dd dm dw d4 ec ek es be bo : Int, ∃ bx : Bool, ∃ o : OA, ∃ af x : Nat, cellsAt g ⟨c, 0, none⟩ 0 [(Iv cm), (Iv cx), (Iv c5), (Iv dd), (Iv dm), (Iv dw), (Iv d4), (Iv ec), (Iv ek), (Iv es), (Iv be), (Iv bo), (.bool bx), (.slice o af x)] ∧
 (kLd g ⟨f, 0, none⟩ .i64 fun g2 =>
 (CP N_ref21_place #[(.agg #[Iv cm, Iv cx, Iv c5, Iv dd, Iv dm, Iv dw, Iv d4, Iv ec, Iv ek, Iv es, Iv be, Iv bo, .bool bx, .slice o af x]), (Iv g2)] g fun fx a4 =>
 ∃ f5 : Int, fx = .returned (Iv f5) ∧
 (bsplit (decide (f5 ≤ aj))
 (R (.bool false) a4)
 ((∃ cn bh c6 de dn dx d5 ed el et bf bp : Int, ∃ bz : Bool, ∃ p : OA, ∃ ag y : Nat, cellsAt a4 ⟨c, 0, none⟩ 0 [(Iv cn), (Iv bh), (Iv c6), (Iv de), (Iv dn), (Iv dx), (Iv d5), (Iv ed), (Iv el), (Iv et), (Iv bf), (Iv bp), (.bool bz), (.slice p ag y)] ∧
 (kLd a4 ⟨f, 0, none⟩ .i64 fun g3 =>
 (CP N_ref21_place #[(.agg #[Iv cn, Iv bh, Iv c6, Iv de, Iv dn, Iv dx, Iv d5, Iv ed, Iv el, Iv et, Iv bf, Iv bp, .bool bz, .slice p ag y]), (Iv g3)] a4 fun fy e1 =>
 ∃ f6 : Int, fy = .returned (Iv f6) ∧
 (bsplit (decide (f6 ≥ a2))
 (R (.bool false) e1)
 (fq e1)))))))))))))))))))))))
 ((kW .i64 (a2 - (1 : Int)) fun hb =>
 (kLet (decide (aj = hb)) fun hc =>
 R (.bool hc) i)))))))))) ∧
 (kLd b ⟨c, 9, none⟩ .i64 fun gi =>
 (bsplit (decide (gi = (-1 : Int)))
 ((kLd b ⟨c, 10, none⟩ .i64 fun gj =>
 (bsplit (!decide (gj = (0 : Int)))
 (e true b)
 ((kLd b ⟨c, 9, none⟩ .i64 fun gk =>
 (bsplit (!decide (gk = (-1 : Int)))
 ((kLd b ⟨c, 9, none⟩ .i64 fun gl =>
 (bsplit (decide (gl < (0 : Int)))
 (e true b)
 ((kLd b ⟨c, 9, none⟩ .i64 fun gm =>
 (bsplit (decide (gm ≥ a3))
 (e true b)
 ((∃ ch cs c0 c9 di ds d0 d8 eg eo ba bk : Int, ∃ bt : Bool, ∃ k : OA, ∃ ab s : Nat, cellsAt b ⟨c, 0, none⟩ 0 [(Iv ch), (Iv cs), (Iv c0), (Iv c9), (Iv di), (Iv ds), (Iv d0), (Iv d8), (Iv eg), (Iv eo), (Iv ba), (Iv bk), (.bool bt), (.slice k ab s)] ∧
 (kLd b ⟨c, 9, none⟩ .i64 fun gn =>
 (CP N_ref21_place #[(.agg #[Iv ch, Iv cs, Iv c0, Iv c9, Iv di, Iv ds, Iv d0, Iv d8, Iv eg, Iv eo, Iv ba, Iv bk, .bool bt, .slice k ab s]), (Iv gn)] b fun ft ex =>
 ∃ f1 : Int, ft = .returned (Iv f1) ∧
 (bsplit (decide (f1 < (1 : Int)))
 (e true ex)
 ((∃ ci ct c1 da dj dt d1 d9 eh ep bb bl : Int, ∃ bu : Bool, ∃ l : OA, ∃ ac t : Nat, cellsAt ex ⟨c, 0, none⟩ 0 [(Iv ci), (Iv ct), (Iv c1), (Iv da), (Iv dj), (Iv dt), (Iv d1), (Iv d9), (Iv eh), (Iv ep), (Iv bb), (Iv bl), (.bool bu), (.slice l ac t)] ∧
 (kLd ex ⟨c, 9, none⟩ .i64 fun go =>
 (CP N_ref21_place #[(.agg #[Iv ci, Iv ct, Iv c1, Iv da, Iv dj, Iv dt, Iv d1, Iv d9, Iv eh, Iv ep, Iv bb, Iv bl, .bool bu, .slice l ac t]), (Iv go)] ex fun fu cb =>
 ∃ f2 : Int, fu = .returned (Iv f2) ∧
 (bsplit (decide (f2 > a2))
 (e true cb)
 ((kLd cb ⟨c, 10, none⟩ .i64 fun gp =>
 (bsplit (decide (gp < (1 : Int)))
 (e true cb)
 ((kLd cb ⟨c, 10, none⟩ .i64 fun gq =>
 (kLd cb ⟨c, 3, none⟩ .i64 fun gr =>
 e (decide (gq > gr)) cb))))))))))))))))))))))
 (e false b)))))))
 ((kLd b ⟨c, 9, none⟩ .i64 fun gs =>
 (bsplit (!decide (gs = (-1 : Int)))
 ((kLd b ⟨c, 9, none⟩ .i64 fun gt =>
 (bsplit (decide (gt < (0 : Int)))
 (e true b)
 ((kLd b ⟨c, 9, none⟩ .i64 fun gu =>
 (bsplit (decide (gu ≥ a3))
 (e true b)
 ((∃ cj cu c2 db dk du d2 ea ei eq bc bm : Int, ∃ bv : Bool, ∃ m : OA, ∃ ad u : Nat, cellsAt b ⟨c, 0, none⟩ 0 [(Iv cj), (Iv cu), (Iv c2), (Iv db), (Iv dk), (Iv du), (Iv d2), (Iv ea), (Iv ei), (Iv eq), (Iv bc), (Iv bm), (.bool bv), (.slice m ad u)] ∧
 (kLd b ⟨c, 9, none⟩ .i64 fun gv =>
 (CP N_ref21_place #[(.agg #[Iv cj, Iv cu, Iv c2, Iv db, Iv dk, Iv du, Iv d2, Iv ea, Iv ei, Iv eq, Iv bc, Iv bm, .bool bv, .slice m ad u]), (Iv gv)] b fun fv ey =>
 ∃ f3 : Int, fv = .returned (Iv f3) ∧
 (bsplit (decide (f3 < (1 : Int)))
 (e true ey)
 ((∃ ck cv c3 dc dl dv d3 eb ej er bd bn : Int, ∃ bw : Bool, ∃ n : OA, ∃ ae v : Nat, cellsAt ey ⟨c, 0, none⟩ 0 [(Iv ck), (Iv cv), (Iv c3), (Iv dc), (Iv dl), (Iv dv), (Iv d3), (Iv eb), (Iv ej), (Iv er), (Iv bd), (Iv bn), (.bool bw), (.slice n ae v)] ∧
 (kLd ey ⟨c, 9, none⟩ .i64 fun gw =>
 (CP N_ref21_place #[(.agg #[Iv ck, Iv cv, Iv c3, Iv dc, Iv dl, Iv dv, Iv d3, Iv eb, Iv ej, Iv er, Iv bd, Iv bn, .bool bw, .slice n ae v]), (Iv gw)] ey fun fw h =>
 ∃ f4 : Int, fw = .returned (Iv f4) ∧
 (bsplit (decide (f4 > a2))
 (e true h)
 ((kLd h ⟨c, 10, none⟩ .i64 fun gx =>
 (bsplit (decide (gx < (1 : Int)))
 (e true h)
 ((kLd h ⟨c, 10, none⟩ .i64 fun gy =>
 (kLd h ⟨c, 3, none⟩ .i64 fun gz =>
 e (decide (gy > gz)) h))))))))))))))))))))))
 (e false b)))))))) ∧
 (kW .i64 (Int.tdiv a3 (2 : Int)) fun gg =>
 (bsplit (decide (a2 > gg))
 (R (.bool false) ew)
 ((∃ cg cr cz c8 dh dr dz d7 ef en a9 bj : Int, ∃ bs : Bool, ∃ j : OA, ∃ aa r : Nat, cellsAt ew ⟨c, 0, none⟩ 0 [(Iv cg), (Iv cr), (Iv cz), (Iv c8), (Iv dh), (Iv dr), (Iv dz), (Iv d7), (Iv ef), (Iv en), (Iv a9), (Iv bj), (.bool bs), (.slice j aa r)] ∧
 (kLd ew ⟨c, 8, none⟩ .i64 fun gh =>
 (CP N_ref21_place #[(.agg #[Iv cg, Iv cr, Iv cz, Iv c8, Iv dh, Iv dr, Iv dz, Iv d7, Iv ef, Iv en, Iv a9, Iv bj, .bool bs, .slice j aa r]), (Iv gh)] ew fun fs gb =>
 ∃ f0 : Int, fs = .returned (Iv f0) ∧
 (bsplit (decide (f0 > a2))
 (R (.bool false) gb)
 (fp gb))))))))))))))) ∧
 (kLd d ⟨c, 6, none⟩ .i64 fun hg =>
 (bsplit (decide (hg < (0 : Int)))
 (ev true d)
 ((kLd d ⟨c, 6, none⟩ .i64 fun hh =>
 (bsplit (decide (hh ≥ a3))
 (ev true d)
 ((kLd d ⟨c, 7, none⟩ .i64 fun hi =>
 (bsplit (decide (hi < (0 : Int)))
 (ev true d)
 ((kLd d ⟨c, 7, none⟩ .i64 fun hj =>
 (bsplit (decide (hj ≥ a3))
 (ev true d)
 ((kLd d ⟨c, 8, none⟩ .i64 fun hk =>
 (bsplit (decide (hk < (0 : Int)))
 (ev true d)
 ((kLd d ⟨c, 8, none⟩ .i64 fun hl =>
 (bsplit (decide (hl ≥ a3))
 (ev true d)
 ((kLd d ⟨c, 11, none⟩ .i64 fun hm =>
 (bsplit (decide (hm < (0 : Int)))
 (ev true d)
 ((kLd d ⟨c, 11, none⟩ .i64 fun gd =>
 (kLd d ⟨c, 4, none⟩ .i64 fun ge =>
 ev (decide (gd > ge)) d)))))))))))))))))))))))))))))))))
theorem F_ref21_Valid_ok {R : EP} (r_0 r_1 r_2 r_3 r_4 r_5 r_6 r_7 r_8 r_9 r_10 r_11 : Int) (r_12 : Bool) (r_13_a : OA) (r_13_l r_13_c : Nat) (w : World) (h : F_ref21_Valid r_0 r_1 r_2 r_3 r_4 r_5 r_6 r_7 r_8 r_9 r_10 r_11 r_12 r_13_a r_13_l r_13_c w fun v w' => R (.returned v) w') : CP N_ref21_Valid #[(.agg #[Iv r_0, Iv r_1, Iv r_2, Iv r_3, Iv r_4, Iv r_5, Iv r_6, Iv r_7, Iv r_8, Iv r_9, Iv r_10, Iv r_11, .bool r_12, .slice r_13_a r_13_l r_13_c])] w R :=
 calls_of (k := TTk) (h := h_ref21_Valid) (f := 35) follows_ok Tryz.func35 (Eq.mpr (by kernel_rfl) h)

def h_ref23_quiet : H := (.seq .reg (.seq .reg (.seq .reg .leaf)))
def F_ref23_quiet (r_0 r_1 r_2 r_3 r_4 r_5 r_6 r_7 r_8 r_9 r_10 r_11 : Int) (r_12 : Bool) (r_13_a : OA) (r_13_l r_13_c : Nat) (w : World) (R : Value → WP) : Prop :=
 (kAlloc w #[(Iv r_0), (Iv r_1), (Iv r_2), (Iv r_3), (Iv r_4), (Iv r_5), (Iv r_6), (Iv r_7), (Iv r_8), (Iv r_9), (Iv r_10), (Iv r_11), (.bool r_12), (.slice r_13_a r_13_l r_13_c)] Ty_api_Receiver fun al am =>
 (kAlloc am #[Iv (0 : Int), Iv (0 : Int), Iv (0 : Int), Iv (0 : Int), Iv (0 : Int), Iv (0 : Int), Iv (0 : Int), Iv (0 : Int), Iv (0 : Int), Iv (0 : Int), Iv (0 : Int), Iv (0 : Int), .bool false, .slice none 0 0] Ty_api_Receiver fun ah ai =>
 (kLd ai ⟨al, 6, none⟩ .i64 fun ao =>
 (kSet ai ⟨al, 12, none⟩ (.bool false) fun an =>
 (kSet an ⟨al, 8, none⟩ (Iv ao) fun aj =>
 (∃ x y z aa ab ac ad ae af ag t u : Int, ∃ v : Bool, ∃ d : OA, ∃ f e : Nat, cellsAt aj ⟨al, 0, none⟩ 0 [(Iv x), (Iv y), (Iv z), (Iv aa), (Iv ab), (Iv ac), (Iv ad), (Iv ae), (Iv af), (Iv ag), (Iv t), (Iv u), (.bool v), (.slice d f e)] ∧
 (sxStore aj ⟨ah, 0, none⟩ 0 [(Iv x), (Iv y), (Iv z), (Iv aa), (Iv ab), (Iv ac), (Iv ad), (Iv ae), (Iv af), (Iv ag), (Iv t), (Iv u), (.bool v), (.slice d f e)] fun ak =>
 (∃ j k l m n o p q r s g h : Int, ∃ i : Bool, ∃ a : OA, ∃ c b : Nat, cellsAt ak ⟨ah, 0, none⟩ 0 [(Iv j), (Iv k), (Iv l), (Iv m), (Iv n), (Iv o), (Iv p), (Iv q), (Iv r), (Iv s), (Iv g), (Iv h), (.bool i), (.slice a c b)] ∧
 R (.agg #[Iv j, Iv k, Iv l, Iv m, Iv n, Iv o, Iv p, Iv q, Iv r, Iv s, Iv g, Iv h, .bool i, .slice a c b]) ak))))))))
theorem F_ref23_quiet_ok {R : EP} (r_0 r_1 r_2 r_3 r_4 r_5 r_6 r_7 r_8 r_9 r_10 r_11 : Int) (r_12 : Bool) (r_13_a : OA) (r_13_l r_13_c : Nat) (w : World) (h : F_ref23_quiet r_0 r_1 r_2 r_3 r_4 r_5 r_6 r_7 r_8 r_9 r_10 r_11 r_12 r_13_a r_13_l r_13_c w fun v w' => R (.returned v) w') : CP N_ref23_quiet #[(.agg #[Iv r_0, Iv r_1, Iv r_2, Iv r_3, Iv r_4, Iv r_5, Iv r_6, Iv r_7, Iv r_8, Iv r_9, Iv r_10, Iv r_11, .bool r_12, .slice r_13_a r_13_l r_13_c])] w R :=
 calls_of (k := TTk) (h := h_ref23_quiet) (f := 36) follows_ok Tryz.func36 (Eq.mpr (by kernel_rfl) h)

def h_ref23_place : H := (.seq .reg (.seq .reg .leaf))
def F_ref23_place (r_0 r_1 r_2 r_3 r_4 r_5 r_6 r_7 r_8 r_9 r_10 r_11 : Int) (r_12 : Bool) (r_13_a : OA) (r_13_l r_13_c : Nat) (n : Int) (w : World) (R : Value → WP) : Prop :=
 (kAlloc w #[(Iv r_0), (Iv r_1), (Iv r_2), (Iv r_3), (Iv r_4), (Iv r_5), (Iv r_6), (Iv r_7), (Iv r_8), (Iv r_9), (Iv r_10), (Iv r_11), (.bool r_12), (.slice r_13_a r_13_l r_13_c)] Ty_api_Receiver fun e a =>
 (kLd a ⟨e, 0, none⟩ .i64 fun g =>
 (kLd a ⟨e, 6, none⟩ .i64 fun d =>
 (CP N_ref02_Distance #[(Iv g), (Iv d), (Iv n)] a fun b c =>
 ∃ f : Int, b = .returned (Iv f) ∧
 R (Iv f) c))))
theorem F_ref23_place_ok {R : EP} (r_0 r_1 r_2 r_3 r_4 r_5 r_6 r_7 r_8 r_9 r_10 r_11 : Int) (r_12 : Bool) (r_13_a : OA) (r_13_l r_13_c : Nat) (n : Int) (w : World) (h : F_ref23_place r_0 r_1 r_2 r_3 r_4 r_5 r_6 r_7 r_8 r_9 r_10 r_11 r_12 r_13_a r_13_l r_13_c n w fun v w' => R (.returned v) w') : CP N_ref23_place #[(.agg #[Iv r_0, Iv r_1, Iv r_2, Iv r_3, Iv r_4, Iv r_5, Iv r_6, Iv r_7, Iv r_8, Iv r_9, Iv r_10, Iv r_11, .bool r_12, .slice r_13_a r_13_l r_13_c]), (Iv n)] w R :=
 calls_of (k := TTk) (h := h_ref23_place) (f := 37) follows_ok Tryz.func37 (Eq.mpr (by kernel_rfl) h)

def h_ref23_next : H := (.seq .reg (.seq .reg .leaf))
def F_ref23_next (r_0 r_1 r_2 r_3 r_4 r_5 r_6 r_7 r_8 r_9 r_10 r_11 : Int) (r_12 : Bool) (r_13_a : OA) (r_13_l r_13_c : Nat) (n : Int) (w : World) (R : Value → WP) : Prop :=
 (kAlloc w #[(Iv r_0), (Iv r_1), (Iv r_2), (Iv r_3), (Iv r_4), (Iv r_5), (Iv r_6), (Iv r_7), (Iv r_8), (Iv r_9), (Iv r_10), (Iv r_11), (.bool r_12), (.slice r_13_a r_13_l r_13_c)] Ty_api_Receiver fun f a =>
 (kW .i64 (n + (1 : Int)) fun g =>
 (kLd a ⟨f, 0, none⟩ .i64 fun d =>
 (kW .u64 (d) fun b =>
 (0 ≤ b ∧ (kW .i64 ((1 : Int) * 2 ^ (min b.toNat (IntKind.bits .i64))) fun c =>
 (c ≠ 0 ∧ (kLet (Int.tmod g c) fun e =>
 R (Iv e) a))))))))
theorem F_ref23_next_ok {R : EP} (r_0 r_1 r_2 r_3 r_4 r_5 r_6 r_7 r_8 r_9 r_10 r_11 : Int) (r_12 : Bool) (r_13_a : OA) (r_13_l r_13_c : Nat) (n : Int) (w : World) (h : F_ref23_next r_0 r_1 r_2 r_3 r_4 r_5 r_6 r_7 r_8 r_9 r_10 r_11 r_12 r_13_a r_13_l r_13_c n w fun v w' => R (.returned v) w') : CP N_ref23_next #[(.agg #[Iv r_0, Iv r_1, Iv r_2, Iv r_3, Iv r_4, Iv r_5, Iv r_6, Iv r_7, Iv r_8, Iv r_9, Iv r_10, Iv r_11, .bool r_12, .slice r_13_a r_13_l r_13_c]), (Iv n)] w R :=
 calls_of (k := TTk) (h := h_ref23_next) (f := 38) follows_ok Tryz.func38 (Eq.mpr (by kernel_rfl) h)

def h_ref01_Same : H := (.seq .reg (.seq .reg .leaf))
def F_ref01_Same (a_a : OA) (a_l a_c : Nat) (b_a : OA) (b_l b_c : Nat) (w : World) (R : Value → WP) : Prop :=
 (ConvS Tryz.prog Ty_S_uint8 Ty_string (.slice a_a a_l a_c) w fun b =>
 (ConvS Tryz.prog Ty_S_uint8 Ty_string (.slice b_a b_l b_c) w fun a =>
 R (.bool (b == a)) w))
theorem F_ref01_Same_ok {R : EP} (a_a : OA) (a_l a_c : Nat) (b_a : OA) (b_l b_c : Nat) (w : World) (h : F_ref01_Same a_a a_l a_c b_a b_l b_c w fun v w' => R (.returned v) w') : CP N_ref01_Same #[(.slice a_a a_l a_c), (.slice b_a b_l b_c)] w R :=
 calls_of (k := TTk) (h := h_ref01_Same) (f := 39) follows_ok Tryz.func39 (Eq.mpr (by kernel_rfl) h)

def h_ref18_SameRanges : H := (.seq .reg (.seq (.seq .reg (.cond (.seq .reg .leaf) .leaf)) (.seq (.seq .reg (.block (.loop [(5, .p (.int .i64))] [4, 5, 11, 12, 13, 14, 15, 16, 17, 18, 19, 20, 21, 22, 23, 24, 25] (.seq (.seq .reg (.cond .leaf .leaf)) (.seq (.block (.seq (.draw .no (.one 0 .stable (.one 1 .stable (.one 2 .stable (.one 3 .stable (.one 4 .stable (.one 5 .stable (.one 6 .stable (.one 7 .stable (.one 8 .stable .nil)))))))))) (.cond (.seq .reg .leaf) .leaf))) .reg))))) (.seq .reg .leaf))))
def F_ref18_SameRanges (a_a : OA) (a_l _ : Nat) (b_a : OA) (b_l _ : Nat) (w : World) (R : Value → WP) : Prop :=
 (bsplit (!decide ((a_l : Int) = (b_l : Int)))
 (R (.bool false) w)
 ((∃ j : Int → Nat × (WP), (j (0 : Int)).2 w ∧
 (∀ (_ : Env) (e : Int) (i : World), (j e).2 i →
 (bsplit (decide (e < (a_l : Int)))
 ((kDrew i fun d =>
 (kIx a_a a_l e fun m =>
 (∃ f g h : Int, cellsAt d (m.add (e.toNat * 3)) 0 [(Iv f), (Iv g), (Iv h)] ∧
 (kIx b_a b_l e fun k =>
 (∃ a b c : Int, cellsAt d (k.add (e.toNat * 3)) 0 [(Iv a), (Iv b), (Iv c)] ∧
 (EqP Tryz.prog .neq Ty_api_Range (.tmp 20) (.tmp 24) (.agg #[Iv f, Iv g, Iv h]) (.agg #[Iv a, Iv b, Iv c]) fun n =>
 (bsplit n
 (R (.bool false) d)
 ((kW .i64 (e + (1 : Int)) fun l =>
 ((j l).2 d ∧ (j l).1 < (j e).1)))))))))))
 (R (.bool true) i))))))
theorem F_ref18_SameRanges_ok {R : EP} (a_a : OA) (a_l a_c : Nat) (b_a : OA) (b_l b_c : Nat) (w : World) (h : F_ref18_SameRanges a_a a_l a_c b_a b_l b_c w fun v w' => R (.returned v) w') : CP N_ref18_SameRanges #[(.slice a_a a_l a_c), (.slice b_a b_l b_c)] w R :=
 calls_of (k := TTk) (h := h_ref18_SameRanges) (f := 40) follows_ok Tryz.func40 (Eq.mpr (by kernel_rfl) h)

def h_ref18_Cut : H := (.seq .reg (.seq (.seq .reg (.cond (.seq .reg .leaf) .leaf)) (.seq .reg (.seq (.seq .reg (.cond (.seq .reg .leaf) .leaf)) (.seq (.seq .reg (.cond (.seq .reg (.seq .reg .leaf)) .leaf)) (.seq .reg (.cut [(11, .p .addr), (12, .p .addr)] [11, 12, 44, 45] (.draw .blk (.one 0 .stable (.one 1 .stable (.alt 2 (.one 3 .keep (.one 4 .keep (.one 5 .last .nil))) (.alt 3 (.one 2 .keep (.one 4 .keep (.one 5 .last .nil))) .endAlt))))) (.seq .reg (.seq .reg (.seq .reg (.cut [] [63, 64, 65, 66, 67, 68, 69, 70, 71, 72, 73, 74] (.seq .reg (.block (.seq .reg (.cond .reg (.seq .reg (.cond .reg (.seq .reg (.cond .reg .leaf)))))))) (.seq (.draw .blk (.one 0 .pre (.one 1 .stable (.one 2 .keep (.one 3 .keep (.one 4 .stable .nil)))))) .leaf))))))))))))
def F_ref18_Cut (bits p_0 p_1 p_2 p_3 : Int) (p_4_a : OA) (p_4_l p_4_c : Nat) (size : Int) (w : World) (R : Value → WP) : Prop :=
 (kAlloc w #[(Iv p_0), (Iv p_1), (Iv p_2), (Iv p_3), (.slice p_4_a p_4_l p_4_c)] Ty_api_Piece fun a4 eb =>
 (kAlloc eb #[Iv (0 : Int), Iv (0 : Int), Iv (0 : Int), Iv (0 : Int), .slice none 0 0] Ty_api_Piece fun k ec =>
 (kAlloc ec #[Iv (0 : Int), Iv (0 : Int), Iv (0 : Int), Iv (0 : Int), .slice none 0 0] Ty_api_Piece fun l d4 =>
 (∃ c4 c5 c6 c7 : Int, ∃ a9 : OA, ∃ bb ba : Nat, cellsAt d4 ⟨a4, 0, none⟩ 0 [(Iv c4), (Iv c5), (Iv c6), (Iv c7), (.slice a9 bb ba)] ∧
 (CP N_ref18_Valid #[(Iv bits), (.agg #[Iv c4, Iv c5, Iv c6, Iv c7, .slice a9 bb ba])] d4 fun ea c9 =>
 ∃ em : Bool, ea = .returned (.bool em) ∧
 (bsplit (!em)
 ((sxStore c9 ⟨k, 0, none⟩ 0 [(Iv (0 : Int)), (Iv (0 : Int)), (Iv (0 : Int)), (Iv (0 : Int)), (.slice none 0 0)] fun ed =>
 (sxStore ed ⟨l, 0, none⟩ 0 [(Iv (0 : Int)), (Iv (0 : Int)), (Iv (0 : Int)), (Iv (0 : Int)), (.slice none 0 0)] fun da =>
 (∃ cp cq cr cs : Int, ∃ a5 : OA, ∃ a7 a6 : Nat, cellsAt da ⟨k, 0, none⟩ 0 [(Iv cp), (Iv cq), (Iv cr), (Iv cs), (.slice a5 a7 a6)] ∧
 (∃ bd bk br bz : Int, ∃ m : OA, ∃ ab t : Nat, cellsAt da ⟨l, 0, none⟩ 0 [(Iv bd), (Iv bk), (Iv br), (Iv bz), (.slice m ab t)] ∧
 R (.tuple #[(.agg #[Iv cp, Iv cq, Iv cr, Iv cs, .slice a5 a7 a6]), (.agg #[Iv bd, Iv bk, Iv br, Iv bz, .slice m ab t]), (Iv (1 : Int))]) da)))))
 ((kLd c9 ⟨a4, 1, none⟩ .i64 fun en =>
 (CP N_ref18_Head #[(Iv en)] c9 fun dw b8 =>
 ∃ cn : Int, dw = .returned (Iv cn) ∧
 (kW .i64 (cn + (1 : Int)) fun ef =>
 (bsplit (decide (size < ef))
 ((sxStore b8 ⟨k, 0, none⟩ 0 [(Iv (0 : Int)), (Iv (0 : Int)), (Iv (0 : Int)), (Iv (0 : Int)), (.slice none 0 0)] fun ee =>
 (sxStore ee ⟨l, 0, none⟩ 0 [(Iv (0 : Int)), (Iv (0 : Int)), (Iv (0 : Int)), (Iv (0 : Int)), (.slice none 0 0)] fun db =>
 (∃ be bl bs b0 : Int, ∃ n : OA, ∃ ac u : Nat, cellsAt db ⟨k, 0, none⟩ 0 [(Iv be), (Iv bl), (Iv bs), (Iv b0), (.slice n ac u)] ∧
 (∃ bf bm bt b1 : Int, ∃ o : OA, ∃ ad v : Nat, cellsAt db ⟨l, 0, none⟩ 0 [(Iv bf), (Iv bm), (Iv bt), (Iv b1), (.slice o ad v)] ∧
 R (.tuple #[(.agg #[Iv be, Iv bl, Iv bs, Iv b0, .slice n ac u]), (.agg #[Iv bf, Iv bm, Iv bt, Iv b1, .slice o ad v]), (Iv (15 : Int))]) db)))))
 ((kLdS b8 ⟨a4, 4, none⟩ fun _ d8 _ =>
 (kW .i64 (cn + (d8 : Int)) fun eg =>
 (bsplit (decide (size ≥ eg))
 ((kLdS b8 ⟨a4, 4, none⟩ fun dd dn dj =>
 (AppP Tryz.prog #[Ty_S_uint8, Ty_S_uint8] Ty_S_uint8 #[(.slice none 0 0), (.slice dd dn dj)] b8 fun de dp dk dx =>
 (kSet dx ⟨a4, 4, none⟩ (.slice de dp dk) fun ct =>
 (∃ b9 cc cf ci : Int, ∃ ak : OA, ∃ aq an : Nat, cellsAt ct ⟨a4, 0, none⟩ 0 [(Iv b9), (Iv cc), (Iv cf), (Iv ci), (.slice ak aq an)] ∧
 (sxStore ct ⟨k, 0, none⟩ 0 [(Iv b9), (Iv cc), (Iv cf), (Iv ci), (.slice ak aq an)] fun dy =>
 (sxStore dy ⟨l, 0, none⟩ 0 [(Iv (0 : Int)), (Iv (0 : Int)), (Iv (0 : Int)), (Iv (0 : Int)), (.slice none 0 0)] fun b6 =>
 (∃ bg bn bu b2 : Int, ∃ p : OA, ∃ ae x : Nat, cellsAt b6 ⟨k, 0, none⟩ 0 [(Iv bg), (Iv bn), (Iv bu), (Iv b2), (.slice p ae x)] ∧
 (∃ bh bo bv b3 : Int, ∃ q : OA, ∃ af y : Nat, cellsAt b6 ⟨l, 0, none⟩ 0 [(Iv bh), (Iv bo), (Iv bv), (Iv b3), (.slice q af y)] ∧
 R (.tuple #[(.agg #[Iv bg, Iv bn, Iv bu, Iv b2, .slice p ae x]), (.agg #[Iv bh, Iv bo, Iv bv, Iv b3, .slice q af y]), (Iv (0 : Int))]) b6)))))))))
 ((kW .i64 (size - cn) fun j =>
 (∃ d9 : Addr → Addr → WP,
 (∀ (_ : Env) (c : Addr) (b : Addr) (b7 : World), d9 c b b7 →
 (kLdS b7 ⟨a4, 4, none⟩ fun df _ a3 =>
 ((0 ≤ j ∧ j ≤ ((a3 : Nat) : Int)) ∧ (AppP Tryz.prog #[Ty_S_uint8, Ty_S_uint8] Ty_S_uint8 #[(.slice none 0 0), (.slice (slAddr a3 0 1 df) (j.toNat - 0) (a3 - 0))] b7 fun dg dq dl d1 =>
 (kSet d1 (c.add 4) (.slice dg dq dl) fun c0 =>
 (kLdS c0 ⟨a4, 4, none⟩ fun dh cm cl =>
 ((0 ≤ j ∧ j ≤ ((cm : Nat) : Int)) ∧ (AppP Tryz.prog #[Ty_S_uint8, Ty_S_uint8] Ty_S_uint8 #[(.slice none 0 0), (.slice (slAddr cl (j.toNat) 1 dh) (cm - j.toNat) (cl - j.toNat))] c0 fun di dr dm d2 =>
 (kSet d2 (b.add 4) (.slice di dr dm) fun c1 =>
 (kLd c1 ⟨a4, 3, none⟩ .i64 fun eh =>
 (kW .i64 (eh + j) fun ei =>
 (kSet c1 (b.add 3) (Iv ei) fun ai =>
 (∃ bc : WP,
 (∀ (_ : Env)  (c2 : World), bc c2 →
 (kDrew c2 fun aj =>
 (∃ c8 : Nat → Prop,
 (∃ ca cd cg cj : Int, ∃ al : OA, ∃ ar ao : Nat, cellsAt aj c 0 [(Iv ca), (Iv cd), (Iv cg), (Iv cj), (.slice al ar ao)] ∧
 (c8 b.block ∧
 (∃ cb ce ch ck : Int, ∃ am : OA, ∃ au ap : Nat, cellsAt aj b 0 [(Iv cb), (Iv ce), (Iv ch), (Iv ck), (.slice am au ap)] ∧
 (sxStore aj ⟨k, 0, none⟩ 0 [(Iv ca), (Iv cd), (Iv cg), (Iv cj), (.slice al ar ao)] fun c3 =>
 (KeepsB c8 aj c3 ∧ (sxStore c3 ⟨l, 0, none⟩ 0 [(Iv cb), (Iv ce), (Iv ch), (Iv ck), (.slice am au ap)] fun a8 =>
 (KeepsB c8 aj a8 ∧ (∃ bi bp bw b4 : Int, ∃ r : OA, ∃ ag z : Nat, cellsAt a8 ⟨k, 0, none⟩ 0 [(Iv bi), (Iv bp), (Iv bw), (Iv b4), (.slice r ag z)] ∧
 (∃ bj bq bx b5 : Int, ∃ s : OA, ∃ ah aa : Nat, cellsAt a8 ⟨l, 0, none⟩ 0 [(Iv bj), (Iv bq), (Iv bx), (Iv b5), (.slice s ah aa)] ∧
 R (.tuple #[(.agg #[Iv bi, Iv bp, Iv bw, Iv b4, .slice r ag z]), (.agg #[Iv bj, Iv bq, Iv bx, Iv b5, .slice s ah aa]), (Iv (0 : Int))]) a8)))))))))))) ∧
 (kLd ai ⟨a4, 1, none⟩ .i64 fun dc =>
 (kLet (decide (dc = (0 : Int))) fun ej =>
 (bsplit ej
 ((kSet ai (c.add 1) (Iv (1 : Int)) fun d3 =>
 (kSet d3 (b.add 1) (Iv (2 : Int)) fun d5 =>
 bc d5)))
 ((kLet (decide (dc = (1 : Int))) fun ek =>
 (bsplit ek
 ((kSet ai (b.add 1) (Iv (3 : Int)) fun d6 =>
 bc d6))
 ((kLet (decide (dc = (2 : Int))) fun el =>
 (bsplit el
 ((kSet ai (c.add 1) (Iv (3 : Int)) fun d7 =>
 bc d7))
 (bc ai))))))))))))))))))))))) ∧
 (kDrew b8 fun a =>
 (∃ co : Nat → Prop,
 (co a4 ∧
 (∃ av ax az a1 : Int, ∃ d : OA, ∃ h f : Nat, cellsAt a ⟨a4, 0, none⟩ 0 [(Iv av), (Iv ax), (Iv az), (Iv a1), (.slice d h f)] ∧
 (co a4 ∧
 (∃ aw ay a0 a2 : Int, ∃ e : OA, ∃ i g : Nat, cellsAt a ⟨a4, 0, none⟩ 0 [(Iv aw), (Iv ay), (Iv a0), (Iv a2), (.slice e i g)] ∧
 ((kAlloc a #[Iv (0 : Int), Iv (0 : Int), Iv (0 : Int), Iv (0 : Int), .slice none 0 0] Ty_api_Piece fun du cx =>
 (KeepsB co a cx ∧ (kAlloc cx #[Iv (0 : Int), Iv (0 : Int), Iv (0 : Int), Iv (0 : Int), .slice none 0 0] Ty_api_Piece fun dv cy =>
 (KeepsB co a cy ∧ (sxStore cy ⟨du, 0, none⟩ 0 [(Iv av), (Iv ax), (Iv az), (Iv a1), (.slice d h f)] fun cz =>
 (KeepsB co a cz ∧ (sxStore cz ⟨dv, 0, none⟩ 0 [(Iv aw), (Iv ay), (Iv a0), (Iv a2), (.slice e i g)] fun d0 =>
 d9 ⟨du, 0, none⟩ ⟨dv, 0, none⟩ d0))))))) ∧
 ((kAlloc a #[Iv (0 : Int), Iv (0 : Int), Iv (0 : Int), Iv (0 : Int), .slice none 0 0] Ty_api_Piece fun ds cu =>
 (KeepsB co a cu ∧ (kAlloc cu #[Iv (0 : Int), Iv (0 : Int), Iv (0 : Int), Iv (0 : Int), .slice none 0 0] Ty_api_Piece fun dt cv =>
 (KeepsB co a cv ∧ (sxStore cv ⟨dt, 0, none⟩ 0 [(Iv av), (Iv ax), (Iv az), (Iv a1), (.slice d h f)] fun cw =>
 (KeepsB co a cw ∧ (sxStore cw ⟨ds, 0, none⟩ 0 [(Iv aw), (Iv ay), (Iv a0), (Iv a2), (.slice e i g)] fun dz =>
 d9 ⟨dt, 0, none⟩ ⟨ds, 0, none⟩ dz))))))) ∧
 True))))))))))))))))))))))))))
theorem F_ref18_Cut_ok {R : EP} (bits p_0 p_1 p_2 p_3 : Int) (p_4_a : OA) (p_4_l p_4_c : Nat) (size : Int) (w : World) (h : F_ref18_Cut bits p_0 p_1 p_2 p_3 p_4_a p_4_l p_4_c size w fun v w' => R (.returned v) w') : CP N_ref18_Cut #[(Iv bits), (.agg #[Iv p_0, Iv p_1, Iv p_2, Iv p_3, .slice p_4_a p_4_l p_4_c]), (Iv size)] w R :=
 calls_of (k := TTk) (h := h_ref18_Cut) (f := 41) follows_ok Tryz.func41 (Eq.mpr (by kernel_rfl) h)

def h_ref18_Encode : H := (.seq .reg (.seq (.seq .reg (.cond (.seq .reg .leaf) .leaf)) (.seq .reg (.seq (.seq .reg (.cond .reg .leaf)) (.seq .reg .leaf)))))
def F_ref18_Encode (bits p_0 p_1 p_2 p_3 : Int) (p_4_a : OA) (p_4_l p_4_c : Nat) (w : World) (R : Value → WP) : Prop :=
 (kAlloc w #[(Iv p_0), (Iv p_1), (Iv p_2), (Iv p_3), (.slice p_4_a p_4_l p_4_c)] Ty_api_Piece fun l ae =>
 (∃ m n o p : Int, ∃ a : OA, ∃ c b : Nat, cellsAt ae ⟨l, 0, none⟩ 0 [(Iv m), (Iv n), (Iv o), (Iv p), (.slice a c b)] ∧
 (CP N_ref18_Valid #[(Iv bits), (.agg #[Iv m, Iv n, Iv o, Iv p, .slice a c b])] ae fun ak j =>
 ∃ ay : Bool, ak = .returned (.bool ay) ∧
 (bsplit (!ay)
 (R (.tuple #[(.slice none 0 0), (Iv (1 : Int))]) j)
 ((kLd j ⟨l, 2, none⟩ .i64 fun az =>
 (kW .i64 ((16384 : Int) * az) fun an =>
 (kW .i64 ((32768 : Int) + an) fun ao =>
 (kLd j ⟨l, 1, none⟩ .i64 fun ap =>
 (kW .i64 ((4096 : Int) * ap) fun aq =>
 (kW .i64 (ao + aq) fun ar =>
 (kLd j ⟨l, 0, none⟩ .i64 fun au =>
 (kW .i64 (ar + au) fun av =>
 (CP N_ref01_Put #[(.slice none 0 0), (Iv (2 : Int)), (Iv av)] j fun aa af =>
 ∃ d : OA, ∃ h f : Nat, aa = .returned (.slice d h f) ∧
 (kLd af ⟨l, 1, none⟩ .i64 fun aw =>
 (CP N_ref18_Head #[(Iv aw)] af fun ab k =>
 ∃ ad : Int, ab = .returned (Iv ad) ∧
 (bsplit (decide (ad = (4 : Int)))
 ((kLd k ⟨l, 3, none⟩ .i64 fun ax =>
 (CP N_ref01_Put #[(.slice d h f), (Iv (2 : Int)), (Iv ax)] k fun ac ag =>
 ∃ e : OA, ∃ i g : Nat, ac = .returned (.slice e i g) ∧
 (kLdS ag ⟨l, 4, none⟩ fun ah aj ai =>
 (AppP Tryz.prog #[Ty_S_uint8, Ty_S_uint8] Ty_S_uint8 #[(.slice e i g), (.slice ah aj ai)] ag fun q x t al =>
 R (.tuple #[(.slice q x t), (Iv (0 : Int))]) al)))))
 ((kLdS k ⟨l, 4, none⟩ fun r y u =>
 (AppP Tryz.prog #[Ty_S_uint8, Ty_S_uint8] Ty_S_uint8 #[(.slice d h f), (.slice r y u)] k fun s z v am =>
 R (.tuple #[(.slice s z v), (Iv (0 : Int))]) am))))))))))))))))))))
theorem F_ref18_Encode_ok {R : EP} (bits p_0 p_1 p_2 p_3 : Int) (p_4_a : OA) (p_4_l p_4_c : Nat) (w : World) (h : F_ref18_Encode bits p_0 p_1 p_2 p_3 p_4_a p_4_l p_4_c w fun v w' => R (.returned v) w') : CP N_ref18_Encode #[(Iv bits), (.agg #[Iv p_0, Iv p_1, Iv p_2, Iv p_3, .slice p_4_a p_4_l p_4_c])] w R :=
 calls_of (k := TTk) (h := h_ref18_Encode) (f := 42) follows_ok Tryz.func42 (Eq.mpr (by kernel_rfl) h)

def h_receiver_Receive : H := (.seq .reg (.seq (.seq .reg (.cond (.seq .reg .leaf) .leaf)) (.seq .reg (.seq .reg (.seq (.seq .reg (.cond (.seq .reg .leaf) .leaf)) (.cut [(10, .p .addr)] [10, 37, 38, 39, 40, 41, 42, 43, 44, 45, 46, 47] (.draw .blk (.one 0 .stable (.one 1 .stable (.one 2 .stable (.one 3 .stable (.one 4 .stable (.one 5 .stable (.one 6 .stable (.one 7 .stable (.one 8 .stable (.alt 9 (.alt 10 (.one 11 .keep (.one 12 .last .nil)) (.alt 11 (.one 10 .keep (.one 12 .last .nil)) .endAlt)) (.alt 11 (.one 9 .keep (.one 10 .keep (.one 12 .last .nil))) .endAlt)))))))))))) (.seq (.draw .blk (.one 0 .stable (.one 1 .stable (.one 2 .stable (.one 3 .stable (.one 4 .stable (.one 5 .pre (.one 6 .pre (.one 7 .pre (.one 8 .pre (.one 10 .stable (.one 9 .keep (.one 11 .keep (.one 12 .stable (.one 13 .stable (.one 14 .stable (.one 15 .stable (.one 16 .stable .nil)))))))))))))))))) (.seq (.seq .reg (.seq .reg (.cond (.seq .reg (.seq .reg .leaf)) .leaf))) (.cut [] [78, 79, 80, 81, 82, 83, 84, 85, 86, 87, 88, 89, 90, 91, 92, 93, 94, 95] (.seq .reg (.cond (.draw .blk (.one 0 .stable (.one 1 .stable (.one 2 .stable (.one 3 .stable (.one 4 .stable (.one 5 .stable (.one 6 .stable (.one 7 .pre (.one 8 .pre (.one 9 .pre (.one 10 .keep (.one 11 .keep (.one 12 .keep (.one 13 .stable (.one 14 .stable (.one 15 .stable (.one 16 .last .nil)))))))))))))))))) .leaf)) (.cut [] [96, 97, 98, 99, 100, 101, 102, 103, 104, 105, 106, 107, 108, 109, 110, 111, 112, 113, 114, 115, 116, 117] (.seq (.draw .blk (.one 0 .pre (.one 1 .pre (.one 2 .pre (.one 3 .pre (.one 5 .stable (.one 6 .stable (.one 7 .stable (.one 8 .stable (.one 9 .stable (.one 10 .stable (.one 4 .keep (.one 11 .keep (.one 12 .stable .nil)))))))))))))) (.cond (.draw .blk (.one 0 .stable (.one 1 .pre (.one 2 .pre (.one 3 .pre (.one 4 .pre (.one 5 .keep (.one 6 .stable (.one 7 .stable (.one 8 .stable (.one 9 .last .nil))))))))))) .leaf)) (.seq .reg (.seq .reg (.seq .reg (.cut [(15, .p .slice)] [15, 128, 129, 130, 131, 132, 133, 134, 135, 136, 137, 138, 139, 140, 141] (.seq .reg (.cond (.seq .reg .reg) .leaf)) (.seq .reg (.seq .reg (.seq .reg (.seq .reg .leaf))))))))))))))))))
def F_receiver_Receive (r_0 r_1 r_2 r_3 r_4 r_5 r_6 r_7 r_8 r_9 r_10 r_11 : Int) (r_12 : Bool) (r_13_a : OA) (r_13_l r_13_c : Nat) (b_a : OA) (b_l b_c : Nat) (w : World) (R : Value → WP) : Prop :=
 (kAlloc w #[(Iv r_0), (Iv r_1), (Iv r_2), (Iv r_3), (Iv r_4), (Iv r_5), (Iv r_6), (Iv r_7), (Iv r_8), (Iv r_9), (Iv r_10), (Iv r_11), (.bool r_12), (.slice r_13_a r_13_l r_13_c)] Ty_api_Receiver fun i6 i9 =>
 (kAlloc i9 #[Iv (0 : Int), Iv (0 : Int), Iv (0 : Int), Iv (0 : Int), Iv (0 : Int), Iv (0 : Int), Iv (0 : Int), Iv (0 : Int), Iv (0 : Int), Iv (0 : Int), Iv (0 : Int), Iv (0 : Int), .bool false, .slice none 0 0] Ty_api_Receiver fun am ig =>
 (∃ gu gv gw gx gy gz g0 g1 g2 g3 d9 ea : Int, ∃ eb : Bool, ∃ ar : OA, ∃ av au : Nat, cellsAt ig ⟨i6, 0, none⟩ 0 [(Iv gu), (Iv gv), (Iv gw), (Iv gx), (Iv gy), (Iv gz), (Iv g0), (Iv g1), (Iv g2), (Iv g3), (Iv d9), (Iv ea), (.bool eb), (.slice ar av au)] ∧
 (CP N_receiver_Valid #[(.agg #[Iv gu, Iv gv, Iv gw, Iv gx, Iv gy, Iv gz, Iv g0, Iv g1, Iv g2, Iv g3, Iv d9, Iv ea, .bool eb, .slice ar av au])] ig fun i8 hj =>
 ∃ jh : Bool, i8 = .returned (.bool jh) ∧
 (bsplit (!jh)
 ((sxStore hj ⟨am, 0, none⟩ 0 [(Iv (0 : Int)), (Iv (0 : Int)), (Iv (0 : Int)), (Iv (0 : Int)), (Iv (0 : Int)), (Iv (0 : Int)), (Iv (0 : Int)), (Iv (0 : Int)), (Iv (0 : Int)), (Iv (0 : Int)), (Iv (0 : Int)), (Iv (0 : Int)), (.bool false), (.slice none 0 0)] fun ik =>
 (∃ cl cq cv c0 c5 c9 dd dh dl dq be bi : Int, ∃ bm : Bool, ∃ j : OA, ∃ r n : Nat, cellsAt ik ⟨am, 0, none⟩ 0 [(Iv cl), (Iv cq), (Iv cv), (Iv c0), (Iv c5), (Iv c9), (Iv dd), (Iv dh), (Iv dl), (Iv dq), (Iv be), (Iv bi), (.bool bm), (.slice j r n)] ∧
 R (.tuple #[(.agg #[Iv cl, Iv cq, Iv cv, Iv c0, Iv c5, Iv c9, Iv dd, Iv dh, Iv dl, Iv dq, Iv be, Iv bi, .bool bm, .slice j r n]), (.slice none 0 0), (Iv (1 : Int))]) ik)))
 ((∃ d1 ec ei eq ey e2 e8 fe fi fm bz b4 : Int, ∃ ca : Bool, ∃ v : OA, ∃ ae aa : Nat, cellsAt hj ⟨i6, 0, none⟩ 0 [(Iv d1), (Iv ec), (Iv ei), (Iv eq), (Iv ey), (Iv e2), (Iv e8), (Iv fe), (Iv fi), (Iv fm), (Iv bz), (Iv b4), (.bool ca), (.slice v ae aa)] ∧
 (CP N_receiver_begin #[(.agg #[Iv d1, Iv ec, Iv ei, Iv eq, Iv ey, Iv e2, Iv e8, Iv fe, Iv fi, Iv fm, Iv bz, Iv b4, .bool ca, .slice v ae aa])] hj fun h0 ja =>
 ∃ h9 : OA, h0 = .returned (.pointer h9) ∧
 (kAlloc ja #[.pointer none] Ty_P_receiver_side fun a jb =>
 (kSet jb ⟨a, 0, none⟩ (.pointer h9) fun im =>
 (kLd im ⟨i6, 0, none⟩ .i64 fun ji =>
 (CP N_segment_Decode #[(Iv ji), (.slice b_a b_l b_c)] im fun h1 jc =>
 ∃ cm cr cw c1 : Int, ∃ bq : OA, ∃ bs br : Nat, ∃ hf : Int, h1 = .returned (.tuple #[(.agg #[Iv cm, Iv cr, Iv cw, Iv c1, .slice bq bs br]), (Iv hf)]) ∧
 (kAlloc jc #[Iv (0 : Int), Iv (0 : Int), Iv (0 : Int), Iv (0 : Int), .slice none 0 0] Ty_api_Piece fun h jd =>
 (sxStore jd ⟨h, 0, none⟩ 0 [(Iv cm), (Iv cr), (Iv cw), (Iv c1), (.slice bq bs br)] fun bt =>
 (bsplit (!decide (hf = (0 : Int)))
 ((∃ io : OA, bt.cell? ⟨a, 0, none⟩ = some (.pointer io) ∧
 (kNil io fun je =>
 (∃ d2 ed ej er ez e3 e9 ff fj fn b0 b5 : Int, ∃ cb : Bool, ∃ x : OA, ∃ af ab : Nat, cellsAt bt je 0 [(Iv d2), (Iv ed), (Iv ej), (Iv er), (Iv ez), (Iv e3), (Iv e9), (Iv ff), (Iv fj), (Iv fn), (Iv b0), (Iv b5), (.bool cb), (.slice x af ab)] ∧
 (sxStore bt ⟨am, 0, none⟩ 0 [(Iv d2), (Iv ed), (Iv ej), (Iv er), (Iv ez), (Iv e3), (Iv e9), (Iv ff), (Iv fj), (Iv fn), (Iv b0), (Iv b5), (.bool cb), (.slice x af ab)] fun fz =>
 (∃ cn cs cx c2 c6 da de di dm dr bf bj : Int, ∃ bn : Bool, ∃ k : OA, ∃ s o : Nat, cellsAt fz ⟨am, 0, none⟩ 0 [(Iv cn), (Iv cs), (Iv cx), (Iv c2), (Iv c6), (Iv da), (Iv de), (Iv di), (Iv dm), (Iv dr), (Iv bf), (Iv bj), (.bool bn), (.slice k s o)] ∧
 R (.tuple #[(.agg #[Iv cn, Iv cs, Iv cx, Iv c2, Iv c6, Iv da, Iv de, Iv di, Iv dm, Iv dr, Iv bf, Iv bj, .bool bn, .slice k s o]), (.slice none 0 0), (Iv hf)]) fz))))))
 ((∃ i5 : Addr → WP,
 (∀ (_ : Env) (fs : Addr) (f2 : World), i5 fs f2 →
 (kDrew f2 fun i =>
 (∃ fq : Nat → Prop,
 (fq a ∧
 (∃ i1 : OA, i.cell? ⟨a, 0, none⟩ = some (.pointer i1) ∧
 (kNil i1 fun i2 =>
 (fq (i2.add 13).block ∧
 (kLdS i (i2.add 13) fun hl hs hp =>
 (∃ i3 : OA, i.cell? ⟨a, 0, none⟩ = some (.pointer i3) ∧
 (kLd i fs .i64 fun jg =>
 (CP N_receiver_side_place #[(.pointer i3), (Iv jg)] i fun h4 f3 =>
 ∃ ib : Int, h4 = .returned (Iv ib) ∧
 (KeepsB fq i f3 ∧ (CP N_slices_BinarySearchFunc_Sapi_Partial_api_Partial_int #[(.slice hl hs hp), (Iv ib), (.func (.func N_receiver_Receive_1) #[] #[(.pointer (some ⟨a, 0, none⟩))])] f3 fun h5 bv =>
 ∃ an : Int, ∃ hh : Bool, h5 = .returned (.tuple #[(Iv an), (.bool hh)]) ∧
 (KeepsB fq i bv ∧ (∃ gd : OA, bv.cell? ⟨a, 0, none⟩ = some (.pointer gd) ∧
 (∃ d3 ee ek es : Int, ∃ aw : OA, ∃ a6 a1 : Nat, ∃ e4 : Int, ∃ fa : Bool, cellsAt bv fs 0 [(Iv d3), (Iv ee), (Iv ek), (Iv es), (.slice aw a6 a1), (Iv e4), (.bool fa)] ∧
 (CP N_receiver_side_refused #[(.pointer gd), (.agg #[Iv d3, Iv ee, Iv ek, Iv es, .slice aw a6 a1, Iv e4, .bool fa]), (Iv an), (.bool hh)] bv fun h6 ao =>
 ∃ hi : Int, h6 = .returned (Iv hi) ∧
 (bsplit (!decide (hi = (0 : Int)))
 ((∃ ge : OA, ao.cell? ⟨a, 0, none⟩ = some (.pointer ge) ∧
 (∃ d4 ef el et : Int, ∃ ax : OA, ∃ a7 a2 : Nat, cellsAt ao ⟨h, 0, none⟩ 0 [(Iv d4), (Iv ef), (Iv el), (Iv et), (.slice ax a7 a2)] ∧
 (CP N_receiver_side_poll #[(.pointer ge), (.agg #[Iv d4, Iv ef, Iv el, Iv et, .slice ax a7 a2])] ao fun h7 dw =>
 h7 = .returned (.tuple #[]) ∧
 (∃ gf : OA, dw.cell? ⟨a, 0, none⟩ = some (.pointer gf) ∧
 (kNil gf fun ip =>
 (∃ d5 eg em eu e0 e5 fb fg fk fo b1 b6 : Int, ∃ cc : Bool, ∃ y : OA, ∃ ag ac : Nat, cellsAt dw ip 0 [(Iv d5), (Iv eg), (Iv em), (Iv eu), (Iv e0), (Iv e5), (Iv fb), (Iv fg), (Iv fk), (Iv fo), (Iv b1), (Iv b6), (.bool cc), (.slice y ag ac)] ∧
 (sxStore dw ⟨am, 0, none⟩ 0 [(Iv d5), (Iv eg), (Iv em), (Iv eu), (Iv e0), (Iv e5), (Iv fb), (Iv fg), (Iv fk), (Iv fo), (Iv b1), (Iv b6), (.bool cc), (.slice y ag ac)] fun f4 =>
 (∃ co ct cy c3 c7 db df dj dn ds bg bk : Int, ∃ bo : Bool, ∃ l : OA, ∃ t p : Nat, cellsAt f4 ⟨am, 0, none⟩ 0 [(Iv co), (Iv ct), (Iv cy), (Iv c3), (Iv c7), (Iv db), (Iv df), (Iv dj), (Iv dn), (Iv ds), (Iv bg), (Iv bk), (.bool bo), (.slice l t p)] ∧
 R (.tuple #[(.agg #[Iv co, Iv ct, Iv cy, Iv c3, Iv c7, Iv db, Iv df, Iv dj, Iv dn, Iv ds, Iv bg, Iv bk, .bool bo, .slice l t p]), (.slice none 0 0), (Iv hi)]) f4)))))))))
 ((∃ g4 : WP,
 (∀ (_ : Env)  (f7 : World), g4 f7 →
 (∃ g5 : WP,
 (∀ (_ : Env)  (aq : World), g5 aq →
 (∃ gp : OA, aq.cell? ⟨a, 0, none⟩ = some (.pointer gp) ∧
 (kNil gp fun ix =>
 (kLdS aq (ix.add 13) fun hn hu _ =>
 (kIx hn hu an fun fr =>
 (∃ d6 eh en ev : Int, ∃ ay : OA, ∃ a8 a3 : Nat, ∃ e6 : Int, ∃ fc : Bool, cellsAt aq fs 0 [(Iv d6), (Iv eh), (Iv en), (Iv ev), (.slice ay a8 a3), (Iv e6), (.bool fc)] ∧
 (CP N_receiver_piece_put #[(.agg #[Iv d6, Iv eh, Iv en, Iv ev, .slice ay a8 a3, Iv e6, .bool fc]), (.pointer (some (fr.add (an.toNat * 5))))] aq fun ha ga =>
 ha = .returned (.tuple #[]) ∧
 (∃ g6 : OA → Nat → Nat → WP,
 (∀ (_ : Env) (bb : OA) (bd : Nat) (bc : Nat) (dy : World), g6 bb bd bc dy →
 (∃ gq : OA, dy.cell? ⟨a, 0, none⟩ = some (.pointer gq) ∧
 (CP N_receiver_side_advance #[(.pointer gq)] dy fun hc gb =>
 hc = .returned (.tuple #[]) ∧
 (∃ gr : OA, gb.cell? ⟨a, 0, none⟩ = some (.pointer gr) ∧
 (CP N_receiver_side_start #[(.pointer gr)] gb fun hd dz =>
 hd = .returned (.tuple #[]) ∧
 (∃ gs : OA, dz.cell? ⟨a, 0, none⟩ = some (.pointer gs) ∧
 (∃ d8 b7 ep ew : Int, ∃ a0 : OA, ∃ ba a5 : Nat, cellsAt dz ⟨h, 0, none⟩ 0 [(Iv d8), (Iv b7), (Iv ep), (Iv ew), (.slice a0 ba a5)] ∧
 (CP N_receiver_side_poll #[(.pointer gs), (.agg #[Iv d8, Iv b7, Iv ep, Iv ew, .slice a0 ba a5])] dz fun he d0 =>
 he = .returned (.tuple #[]) ∧
 (∃ gt : OA, d0.cell? ⟨a, 0, none⟩ = some (.pointer gt) ∧
 (kNil gt fun iz =>
 (∃ bx b8 ce ex e1 e7 fd fh fl fp b2 b9 : Int, ∃ cd : Bool, ∃ z : OA, ∃ ah ad : Nat, cellsAt d0 iz 0 [(Iv bx), (Iv b8), (Iv ce), (Iv ex), (Iv e1), (Iv e7), (Iv fd), (Iv fh), (Iv fl), (Iv fp), (Iv b2), (Iv b9), (.bool cd), (.slice z ah ad)] ∧
 (sxStore d0 ⟨am, 0, none⟩ 0 [(Iv bx), (Iv b8), (Iv ce), (Iv ex), (Iv e1), (Iv e7), (Iv fd), (Iv fh), (Iv fl), (Iv fp), (Iv b2), (Iv b9), (.bool cd), (.slice z ah ad)] fun gc =>
 (∃ cp cu cz c4 c8 dc dg dk dp dt bh bl : Int, ∃ bp : Bool, ∃ m : OA, ∃ u q : Nat, cellsAt gc ⟨am, 0, none⟩ 0 [(Iv cp), (Iv cu), (Iv cz), (Iv c4), (Iv c8), (Iv dc), (Iv dg), (Iv dk), (Iv dp), (Iv dt), (Iv bh), (Iv bl), (.bool bp), (.slice m u q)] ∧
 R (.tuple #[(.agg #[Iv cp, Iv cu, Iv cz, Iv c4, Iv c8, Iv dc, Iv dg, Iv dk, Iv dp, Iv dt, Iv bh, Iv bl, .bool bp, .slice m u q]), (.slice bb bd bc), (Iv (0 : Int))]) gc))))))))))))) ∧
 (∃ d7 : Int, ∃ b3 : Bool, ∃ eo : Int, ∃ cf : OA, ∃ ch cg : Nat, ∃ az : OA, ∃ a9 a4 : Nat, cellsAt ga (fr.add (an.toNat * 5)) 0 [(Iv d7), (.bool b3), (Iv eo), (.slice cf ch cg), (.slice az a9 a4)] ∧
 (CP N_receiver_complete #[(.agg #[Iv d7, .bool b3, Iv eo, .slice cf ch cg, .slice az a9 a4])] ga fun hb bw =>
 ∃ fv : Bool, hb = .returned (.bool fv) ∧
 (bsplit fv
 ((kLdS bw ((fr.add (an.toNat * 5)).add 3) fun ho hv hr =>
 (kLd bw fs .i64 fun iy =>
 (sxStore bw (fr.add (an.toNat * 5)) 0 [(Iv iy), (.bool true), (Iv (0 : Int)), (.slice none 0 0), (.slice none 0 0)] fun il =>
 g6 ho hv hr il))))
 (g6 none 0 0 bw)))))))))))) ∧
 (kDrew f7 fun d =>
 (∃ ck : Nat → Prop,
 (∃ gj : OA, d.cell? ⟨a, 0, none⟩ = some (.pointer gj) ∧
 (kLd d fs .i64 fun it =>
 (ck a ∧
 (∃ gk : OA, d.cell? ⟨a, 0, none⟩ = some (.pointer gk) ∧
 (ck a ∧
 (∃ gl : OA, d.cell? ⟨a, 0, none⟩ = some (.pointer gl) ∧
 (kNil gl fun gm =>
 (ck (gm.add 7).block ∧
 (kLd d (gm.add 7) .i64 fun iu =>
 (CP N_receiver_side_place #[(.pointer gj), (Iv it)] d fun g7 f8 =>
 ∃ ic : Int, g7 = .returned (Iv ic) ∧
 (KeepsB ck d f8 ∧ (CP N_receiver_side_place #[(.pointer gk), (Iv iu)] f8 fun g8 dx =>
 ∃ ft : Int, g8 = .returned (Iv ft) ∧
 (KeepsB ck d dx ∧ (bsplit (decide (ic ≥ ft))
 ((kDrew dx fun ap =>
 (∃ hw : Nat → Prop,
 (hw a ∧
 (∃ gn : OA, ap.cell? ⟨a, 0, none⟩ = some (.pointer gn) ∧
 (∃ go : OA, ap.cell? ⟨a, 0, none⟩ = some (.pointer go) ∧
 (kLd ap fs .i64 fun iv =>
 (CP N_receiver_side_behind #[(.pointer go), (Iv iv)] ap fun g9 f9 =>
 ∃ fu : Int, g9 = .returned (Iv fu) ∧
 (KeepsB hw ap f9 ∧ (kNil gn fun iw =>
 (kSet f9 (iw.add 7) (Iv fu) fun ij =>
 g5 ij)))))))))))
 (g5 dx))))))))))))))))))) ∧
 (bsplit (!hh)
 ((kDrew ao fun c =>
 (∃ ci : Nat → Prop,
 (ci a ∧
 (∃ gg : OA, c.cell? ⟨a, 0, none⟩ = some (.pointer gg) ∧
 (ci a ∧
 (∃ gh : OA, c.cell? ⟨a, 0, none⟩ = some (.pointer gh) ∧
 (kNil gh fun gi =>
 (ci (gi.add 13).block ∧
 (kLdS c (gi.add 13) fun hm ht hq =>
 (kLd c fs .i64 fun iq =>
 (KeepsB ci c c ∧ (kAlloc c #[(Iv iq), (.bool false), (Iv (-1 : Int)), (.slice none 0 0), (.slice none 0 0)] Ty_api_Partial fun i7 f5 =>
 (KeepsB ci c f5 ∧ (CP N_slices_Insert_Sapi_Partial_api_Partial #[(.slice hm ht hq), (Iv an), (.slice (some ⟨i7, 0, none⟩) 1 1)] f5 fun h8 f6 =>
 ∃ fw : OA, ∃ fy fx : Nat, h8 = .returned (.slice fw fy fx) ∧
 (KeepsB ci c f6 ∧ (kNil gg fun ir =>
 (kSet f6 (ir.add 13) (.slice fw fy fx) fun ii =>
 g4 ii))))))))))))))))))
 (g4 ao)))))))))))))))))))))) ∧
 (kDrew bt fun b =>
 (∃ cj : Nat → Prop,
 (cj h ∧
 (∃ ai aj ak al : Int, ∃ e : OA, ∃ g f : Nat, cellsAt b ⟨h, 0, none⟩ 0 [(Iv ai), (Iv aj), (Iv ak), (Iv al), (.slice e g f)] ∧
 (cj h ∧
 (kLd b ⟨h, 3, none⟩ .i64 fun jf =>
 (cj h ∧
 (kLdS b ⟨h, 4, none⟩ fun _ i4 _ =>
 (kW .i64 (jf + (i4 : Int)) fun hk =>
 (cj h ∧
 (kLd b ⟨h, 1, none⟩ .i64 fun i0 =>
 ((CP N_segment_Ends #[(Iv i0)] b fun h3 bu =>
 ∃ hg : Bool, h3 = .returned (.bool hg) ∧
 (KeepsB cj b bu ∧ ((KeepsB cj b bu ∧ (kAlloc bu #[Iv (0 : Int), Iv (0 : Int), Iv (0 : Int), Iv (0 : Int), .slice none 0 0, Iv (0 : Int), .bool false] Ty_receiver_piece fun hz f1 =>
 (KeepsB cj b f1 ∧ (sxStore f1 ⟨hz, 0, none⟩ 0 [(Iv ai), (Iv aj), (Iv ak), (Iv al), (.slice e g f), (Iv hk), (.bool hg)] fun ih =>
 i5 ⟨hz, 0, none⟩ ih)))) ∧
 ((kAlloc bu #[Iv (0 : Int), Iv (0 : Int), Iv (0 : Int), Iv (0 : Int), .slice none 0 0, Iv (0 : Int), .bool false] Ty_receiver_piece fun hy dv =>
 (KeepsB cj b dv ∧ (KeepsB cj b dv ∧ (sxStore dv ⟨hy, 0, none⟩ 0 [(Iv ai), (Iv aj), (Iv ak), (Iv al), (.slice e g f), (Iv hk), (.bool hg)] fun ie =>
 i5 ⟨hy, 0, none⟩ ie)))) ∧
 True)))) ∧
 ((kAlloc b #[Iv (0 : Int), Iv (0 : Int), Iv (0 : Int), Iv (0 : Int), .slice none 0 0, Iv (0 : Int), .bool false] Ty_receiver_piece fun hx f0 =>
 (KeepsB cj b f0 ∧ (CP N_segment_Ends #[(Iv i0)] f0 fun h2 du =>
 ∃ ia : Bool, h2 = .returned (.bool ia) ∧
 (KeepsB cj b du ∧ (KeepsB cj b du ∧ (sxStore du ⟨hx, 0, none⟩ 0 [(Iv ai), (Iv aj), (Iv ak), (Iv al), (.slice e g f), (Iv hk), (.bool ia)] fun id =>
 i5 ⟨hx, 0, none⟩ id)))))) ∧
 True))))))))))))))))))))))))))))))
theorem F_receiver_Receive_ok {R : EP} (r_0 r_1 r_2 r_3 r_4 r_5 r_6 r_7 r_8 r_9 r_10 r_11 : Int) (r_12 : Bool) (r_13_a : OA) (r_13_l r_13_c : Nat) (b_a : OA) (b_l b_c : Nat) (w : World) (h : F_receiver_Receive r_0 r_1 r_2 r_3 r_4 r_5 r_6 r_7 r_8 r_9 r_10 r_11 r_12 r_13_a r_13_l r_13_c b_a b_l b_c w fun v w' => R (.returned v) w') : CP N_receiver_Receive #[(.agg #[Iv r_0, Iv r_1, Iv r_2, Iv r_3, Iv r_4, Iv r_5, Iv r_6, Iv r_7, Iv r_8, Iv r_9, Iv r_10, Iv r_11, .bool r_12, .slice r_13_a r_13_l r_13_c]), (.slice b_a b_l b_c)] w R :=
 calls_of (k := TTk) (h := h_receiver_Receive) (f := 43) follows_ok Tryz.func43 (Eq.mpr (by kernel_rfl) h)

def h_ref21_Receive : H := (.seq .reg (.seq (.seq .reg (.cond (.seq .reg .leaf) .leaf)) (.seq .reg (.seq .reg (.seq (.seq .reg (.cond (.seq .reg .leaf) .leaf)) (.seq .reg (.seq (.seq .reg (.cond .reg .leaf)) (.seq .reg .leaf))))))))
def F_ref21_Receive (r_0 r_1 r_2 r_3 r_4 r_5 r_6 r_7 r_8 r_9 r_10 r_11 : Int) (r_12 : Bool) (r_13_a : OA) (r_13_l r_13_c : Nat) (b_a : OA) (b_l b_c : Nat) (w : World) (R : Value → WP) : Prop :=
 (kAlloc w #[(Iv r_0), (Iv r_1), (Iv r_2), (Iv r_3), (Iv r_4), (Iv r_5), (Iv r_6), (Iv r_7), (Iv r_8), (Iv r_9), (Iv r_10), (Iv r_11), (.bool r_12), (.slice r_13_a r_13_l r_13_c)] Ty_api_Receiver fun f2 f4 =>
 (kAlloc f4 #[Iv (0 : Int), Iv (0 : Int), Iv (0 : Int), Iv (0 : Int), Iv (0 : Int), Iv (0 : Int), Iv (0 : Int), Iv (0 : Int), Iv (0 : Int), Iv (0 : Int), Iv (0 : Int), Iv (0 : Int), .bool false, .slice none 0 0] Ty_api_Receiver fun aj fz =>
 (∃ fg fh fi fj fk fl fm fn fo fp dx dy : Int, ∃ dz : Bool, ∃ am : OA, ∃ ao an : Nat, cellsAt fz ⟨f2, 0, none⟩ 0 [(Iv fg), (Iv fh), (Iv fi), (Iv fj), (Iv fk), (Iv fl), (Iv fm), (Iv fn), (Iv fo), (Iv fp), (Iv dx), (Iv dy), (.bool dz), (.slice am ao an)] ∧
 (CP N_ref21_Valid #[(.agg #[Iv fg, Iv fh, Iv fi, Iv fj, Iv fk, Iv fl, Iv fm, Iv fn, Iv fo, Iv fp, Iv dx, Iv dy, .bool dz, .slice am ao an])] fz fun f3 ft =>
 ∃ gb : Bool, f3 = .returned (.bool gb) ∧
 (bsplit (!gb)
 ((sxStore ft ⟨aj, 0, none⟩ 0 [(Iv (0 : Int)), (Iv (0 : Int)), (Iv (0 : Int)), (Iv (0 : Int)), (Iv (0 : Int)), (Iv (0 : Int)), (Iv (0 : Int)), (Iv (0 : Int)), (Iv (0 : Int)), (Iv (0 : Int)), (Iv (0 : Int)), (Iv (0 : Int)), (.bool false), (.slice none 0 0)] fun f0 =>
 (∃ bu b2 b9 cg cn ct cz c5 db dh ap ax : Int, ∃ a3 : Bool, ∃ a : OA, ∃ m g : Nat, cellsAt f0 ⟨aj, 0, none⟩ 0 [(Iv bu), (Iv b2), (Iv b9), (Iv cg), (Iv cn), (Iv ct), (Iv cz), (Iv c5), (Iv db), (Iv dh), (Iv ap), (Iv ax), (.bool a3), (.slice a m g)] ∧
 R (.tuple #[(.agg #[Iv bu, Iv b2, Iv b9, Iv cg, Iv cn, Iv ct, Iv cz, Iv c5, Iv db, Iv dh, Iv ap, Iv ax, .bool a3, .slice a m g]), (.slice none 0 0), (Iv (1 : Int))]) f0)))
 ((∃ dr d0 d6 ec ei en es ex e2 e7 bc bh : Int, ∃ bm : Bool, ∃ s : OA, ∃ ad y : Nat, cellsAt ft ⟨f2, 0, none⟩ 0 [(Iv dr), (Iv d0), (Iv d6), (Iv ec), (Iv ei), (Iv en), (Iv es), (Iv ex), (Iv e2), (Iv e7), (Iv bc), (Iv bh), (.bool bm), (.slice s ad y)] ∧
 (CP N_ref21_Copy #[(.agg #[Iv dr, Iv d0, Iv d6, Iv ec, Iv ei, Iv en, Iv es, Iv ex, Iv e2, Iv e7, Iv bc, Iv bh, .bool bm, .slice s ad y])] ft fun fu f5 =>
 ∃ bv b3 ca ch co cu c0 c6 dc di aq ay : Int, ∃ a4 : Bool, ∃ b : OA, ∃ n h : Nat, fu = .returned (.agg #[Iv bv, Iv b3, Iv ca, Iv ch, Iv co, Iv cu, Iv c0, Iv c6, Iv dc, Iv di, Iv aq, Iv ay, .bool a4, .slice b n h]) ∧
 (kAlloc f5 #[Iv (0 : Int), Iv (0 : Int), Iv (0 : Int), Iv (0 : Int), Iv (0 : Int), Iv (0 : Int), Iv (0 : Int), Iv (0 : Int), Iv (0 : Int), Iv (0 : Int), Iv (0 : Int), Iv (0 : Int), .bool false, .slice none 0 0] Ty_api_Receiver fun ai f6 =>
 (sxStore f6 ⟨ai, 0, none⟩ 0 [(Iv bv), (Iv b3), (Iv ca), (Iv ch), (Iv co), (Iv cu), (Iv c0), (Iv c6), (Iv dc), (Iv di), (Iv aq), (Iv ay), (.bool a4), (.slice b n h)] fun f1 =>
 (kLd f1 ⟨f2, 0, none⟩ .i64 fun gc =>
 (CP N_ref18_Decode #[(Iv gc), (.slice b_a b_l b_c)] f1 fun fv f7 =>
 ∃ bw b4 cb ci : Int, ∃ a9 : OA, ∃ bb ba : Nat, ∃ fr : Int, fv = .returned (.tuple #[(.agg #[Iv bw, Iv b4, Iv cb, Iv ci, .slice a9 bb ba]), (Iv fr)]) ∧
 (kAlloc f7 #[Iv (0 : Int), Iv (0 : Int), Iv (0 : Int), Iv (0 : Int), .slice none 0 0] Ty_api_Piece fun fq f8 =>
 (sxStore f8 ⟨fq, 0, none⟩ 0 [(Iv bw), (Iv b4), (Iv cb), (Iv ci), (.slice a9 bb ba)] fun ak =>
 (bsplit (!decide (fr = (0 : Int)))
 ((∃ ds d1 d7 ed ej eo et ey e3 e8 bd bi : Int, ∃ bn : Bool, ∃ t : OA, ∃ ae z : Nat, cellsAt ak ⟨ai, 0, none⟩ 0 [(Iv ds), (Iv d1), (Iv d7), (Iv ed), (Iv ej), (Iv eo), (Iv et), (Iv ey), (Iv e3), (Iv e8), (Iv bd), (Iv bi), (.bool bn), (.slice t ae z)] ∧
 (sxStore ak ⟨aj, 0, none⟩ 0 [(Iv ds), (Iv d1), (Iv d7), (Iv ed), (Iv ej), (Iv eo), (Iv et), (Iv ey), (Iv e3), (Iv e8), (Iv bd), (Iv bi), (.bool bn), (.slice t ae z)] fun fc =>
 (∃ bx b5 cc cj cp cv c1 c7 dd dj ar az : Int, ∃ a5 : Bool, ∃ c : OA, ∃ o i : Nat, cellsAt fc ⟨aj, 0, none⟩ 0 [(Iv bx), (Iv b5), (Iv cc), (Iv cj), (Iv cp), (Iv cv), (Iv c1), (Iv c7), (Iv dd), (Iv dj), (Iv ar), (Iv az), (.bool a5), (.slice c o i)] ∧
 R (.tuple #[(.agg #[Iv bx, Iv b5, Iv cc, Iv cj, Iv cp, Iv cv, Iv c1, Iv c7, Iv dd, Iv dj, Iv ar, Iv az, .bool a5, .slice c o i]), (.slice none 0 0), (Iv fr)]) fc))))
 ((∃ dt d2 d8 ee ek ep eu ez e4 e9 be bj : Int, ∃ bo : Bool, ∃ u : OA, ∃ af aa : Nat, cellsAt ak ⟨ai, 0, none⟩ 0 [(Iv dt), (Iv d2), (Iv d8), (Iv ee), (Iv ek), (Iv ep), (Iv eu), (Iv ez), (Iv e4), (Iv e9), (Iv be), (Iv bj), (.bool bo), (.slice u af aa)] ∧
 (∃ du d3 d9 ef : Int, ∃ br : OA, ∃ bt bs : Nat, cellsAt ak ⟨fq, 0, none⟩ 0 [(Iv du), (Iv d3), (Iv d9), (Iv ef), (.slice br bt bs)] ∧
 (CP N_ref21_put #[(.agg #[Iv dt, Iv d2, Iv d8, Iv ee, Iv ek, Iv ep, Iv eu, Iv ez, Iv e4, Iv e9, Iv be, Iv bj, .bool bo, .slice u af aa]), (.agg #[Iv du, Iv d3, Iv d9, Iv ef, .slice br bt bs])] ak fun fw fx =>
 ∃ bz b6 cd ck cq cw c2 c8 de dk au a0 : Int, ∃ a6 : Bool, ∃ d : OA, ∃ p j : Nat, ∃ dn : OA, ∃ dq dp : Nat, ∃ fs : Int, fw = .returned (.tuple #[(.agg #[Iv bz, Iv b6, Iv cd, Iv ck, Iv cq, Iv cw, Iv c2, Iv c8, Iv de, Iv dk, Iv au, Iv a0, .bool a6, .slice d p j]), (.slice dn dq dp), (Iv fs)]) ∧
 (sxStore fx ⟨ai, 0, none⟩ 0 [(Iv bz), (Iv b6), (Iv cd), (Iv ck), (Iv cq), (Iv cw), (Iv c2), (Iv c8), (Iv de), (Iv dk), (Iv au), (Iv a0), (.bool a6), (.slice d p j)] fun al =>
 (kLd al ⟨fq, 2, none⟩ .i64 fun f9 =>
 (bsplit (decide (f9 = (1 : Int)))
 ((kLd al ⟨ai, 7, none⟩ .i64 fun ga =>
 (kSet al ⟨ai, 12, none⟩ (.bool true) fun fy =>
 (kSet fy ⟨ai, 8, none⟩ (Iv ga) fun fd =>
 (∃ dv d4 ea eg el eq ev e0 e5 fa bf bk : Int, ∃ bp : Bool, ∃ v : OA, ∃ ag ab : Nat, cellsAt fd ⟨ai, 0, none⟩ 0 [(Iv dv), (Iv d4), (Iv ea), (Iv eg), (Iv el), (Iv eq), (Iv ev), (Iv e0), (Iv e5), (Iv fa), (Iv bf), (Iv bk), (.bool bp), (.slice v ag ab)] ∧
 (sxStore fd ⟨aj, 0, none⟩ 0 [(Iv dv), (Iv d4), (Iv ea), (Iv eg), (Iv el), (Iv eq), (Iv ev), (Iv e0), (Iv e5), (Iv fa), (Iv bf), (Iv bk), (.bool bp), (.slice v ag ab)] fun fe =>
 (∃ b0 b7 ce cl cr cx c3 c9 df dl av a1 : Int, ∃ a7 : Bool, ∃ e : OA, ∃ q k : Nat, cellsAt fe ⟨aj, 0, none⟩ 0 [(Iv b0), (Iv b7), (Iv ce), (Iv cl), (Iv cr), (Iv cx), (Iv c3), (Iv c9), (Iv df), (Iv dl), (Iv av), (Iv a1), (.bool a7), (.slice e q k)] ∧
 R (.tuple #[(.agg #[Iv b0, Iv b7, Iv ce, Iv cl, Iv cr, Iv cx, Iv c3, Iv c9, Iv df, Iv dl, Iv av, Iv a1, .bool a7, .slice e q k]), (.slice dn dq dp), (Iv fs)]) fe)))))))
 ((∃ dw d5 eb eh em er ew e1 e6 fb bg bl : Int, ∃ bq : Bool, ∃ x : OA, ∃ ah ac : Nat, cellsAt al ⟨ai, 0, none⟩ 0 [(Iv dw), (Iv d5), (Iv eb), (Iv eh), (Iv em), (Iv er), (Iv ew), (Iv e1), (Iv e6), (Iv fb), (Iv bg), (Iv bl), (.bool bq), (.slice x ah ac)] ∧
 (sxStore al ⟨aj, 0, none⟩ 0 [(Iv dw), (Iv d5), (Iv eb), (Iv eh), (Iv em), (Iv er), (Iv ew), (Iv e1), (Iv e6), (Iv fb), (Iv bg), (Iv bl), (.bool bq), (.slice x ah ac)] fun ff =>
 (∃ b1 b8 cf cm cs cy c4 da dg dm aw a2 : Int, ∃ a8 : Bool, ∃ f : OA, ∃ r l : Nat, cellsAt ff ⟨aj, 0, none⟩ 0 [(Iv b1), (Iv b8), (Iv cf), (Iv cm), (Iv cs), (Iv cy), (Iv c4), (Iv da), (Iv dg), (Iv dm), (Iv aw), (Iv a2), (.bool a8), (.slice f r l)] ∧
 R (.tuple #[(.agg #[Iv b1, Iv b8, Iv cf, Iv cm, Iv cs, Iv cy, Iv c4, Iv da, Iv dg, Iv dm, Iv aw, Iv a2, .bool a8, .slice f r l]), (.slice dn dq dp), (Iv fs)]) ff))))))))))))))))))))))))))
theorem F_ref21_Receive_ok {R : EP} (r_0 r_1 r_2 r_3 r_4 r_5 r_6 r_7 r_8 r_9 r_10 r_11 : Int) (r_12 : Bool) (r_13_a : OA) (r_13_l r_13_c : Nat) (b_a : OA) (b_l b_c : Nat) (w : World) (h : F_ref21_Receive r_0 r_1 r_2 r_3 r_4 r_5 r_6 r_7 r_8 r_9 r_10 r_11 r_12 r_13_a r_13_l r_13_c b_a b_l b_c w fun v w' => R (.returned v) w') : CP N_ref21_Receive #[(.agg #[Iv r_0, Iv r_1, Iv r_2, Iv r_3, Iv r_4, Iv r_5, Iv r_6, Iv r_7, Iv r_8, Iv r_9, Iv r_10, Iv r_11, .bool r_12, .slice r_13_a r_13_l r_13_c]), (.slice b_a b_l b_c)] w R :=
 calls_of (k := TTk) (h := h_ref21_Receive) (f := 44) follows_ok Tryz.func44 (Eq.mpr (by kernel_rfl) h)

def h_unack_bitsValid : H := (.seq .reg (.seq .reg .leaf))
def F_unack_bitsValid (bits : Int) (w : World) (R : Value → WP) : Prop :=
 (bsplit (decide (bits ≥ (5 : Int)))
 ((kLet (decide (bits ≤ (9 : Int))) fun a =>
 R (.bool a) w))
 (R (.bool false) w))
theorem F_unack_bitsValid_ok {R : EP} (bits : Int) (w : World) (h : F_unack_bitsValid bits w fun v w' => R (.returned v) w') : CP N_unack_bitsValid #[(Iv bits)] w R :=
 calls_of (k := TTk) (h := h_unack_bitsValid) (f := 45) follows_ok Tryz.func45 (Eq.mpr (by kernel_rfl) h)

def h_receiver_New : H := (.seq .reg (.seq (.seq .reg (.cond (.seq .reg .leaf) .leaf)) (.seq .reg .leaf)))
def F_receiver_New (l_0 l_1 l_2 l_3 l_4 l_5 : Int) (w : World) (R : Value → WP) : Prop :=
 (kAlloc w #[(Iv l_0), (Iv l_1), (Iv l_2), (Iv l_3), (Iv l_4), (Iv l_5)] Ty_api_Link fun a2 a1 =>
 (kAlloc a1 #[Iv (0 : Int), Iv (0 : Int), Iv (0 : Int), Iv (0 : Int), Iv (0 : Int), Iv (0 : Int), Iv (0 : Int), Iv (0 : Int), Iv (0 : Int), Iv (0 : Int), Iv (0 : Int), Iv (0 : Int), .bool false, .slice none 0 0] Ty_api_Receiver fun ad ax =>
 (∃ ao ap aq ar au av : Int, cellsAt ax ⟨a2, 0, none⟩ 0 [(Iv ao), (Iv ap), (Iv aq), (Iv ar), (Iv au), (Iv av)] ∧
 (CP N_sender_ValidLink #[(.agg #[Iv ao, Iv ap, Iv aq, Iv ar, Iv au, Iv av])] ax fun a0 aw =>
 ∃ a3 : Bool, a0 = .returned (.bool a3) ∧
 (bsplit (!a3)
 ((sxStore aw ⟨ad, 0, none⟩ 0 [(Iv (0 : Int)), (Iv (0 : Int)), (Iv (0 : Int)), (Iv (0 : Int)), (Iv (0 : Int)), (Iv (0 : Int)), (Iv (0 : Int)), (Iv (0 : Int)), (Iv (0 : Int)), (Iv (0 : Int)), (Iv (0 : Int)), (Iv (0 : Int)), (.bool false), (.slice none 0 0)] fun ay =>
 (∃ ae af ag ah ai aj ak al am an k l : Int, ∃ m : Bool, ∃ d : OA, ∃ f e : Nat, cellsAt ay ⟨ad, 0, none⟩ 0 [(Iv ae), (Iv af), (Iv ag), (Iv ah), (Iv ai), (Iv aj), (Iv ak), (Iv al), (Iv am), (Iv an), (Iv k), (Iv l), (.bool m), (.slice d f e)] ∧
 R (.tuple #[(.agg #[Iv ae, Iv af, Iv ag, Iv ah, Iv ai, Iv aj, Iv ak, Iv al, Iv am, Iv an, Iv k, Iv l, .bool m, .slice d f e]), (Iv (3 : Int))]) ay)))
 ((∃ x y z aa ab ac : Int, cellsAt aw ⟨a2, 0, none⟩ 0 [(Iv x), (Iv y), (Iv z), (Iv aa), (Iv ab), (Iv ac)] ∧
 (sxStore aw ⟨ad, 0, none⟩ 0 [(Iv x), (Iv y), (Iv z), (Iv aa), (Iv ab), (Iv ac), (Iv (0 : Int)), (Iv (0 : Int)), (Iv (0 : Int)), (Iv (-1 : Int)), (Iv (0 : Int)), (Iv (0 : Int)), (.bool false), (.slice none 0 0)] fun az =>
 (∃ j n o p q r s t u v g h : Int, ∃ i : Bool, ∃ a : OA, ∃ c b : Nat, cellsAt az ⟨ad, 0, none⟩ 0 [(Iv j), (Iv n), (Iv o), (Iv p), (Iv q), (Iv r), (Iv s), (Iv t), (Iv u), (Iv v), (Iv g), (Iv h), (.bool i), (.slice a c b)] ∧
 R (.tuple #[(.agg #[Iv j, Iv n, Iv o, Iv p, Iv q, Iv r, Iv s, Iv t, Iv u, Iv v, Iv g, Iv h, .bool i, .slice a c b]), (Iv (0 : Int))]) az)))))))))
theorem F_receiver_New_ok {R : EP} (l_0 l_1 l_2 l_3 l_4 l_5 : Int) (w : World) (h : F_receiver_New l_0 l_1 l_2 l_3 l_4 l_5 w fun v w' => R (.returned v) w') : CP N_receiver_New #[(.agg #[Iv l_0, Iv l_1, Iv l_2, Iv l_3, Iv l_4, Iv l_5])] w R :=
 calls_of (k := TTk) (h := h_receiver_New) (f := 46) follows_ok Tryz.func46 (Eq.mpr (by kernel_rfl) h)

def h_own_Cutter : H := (.seq .reg (.seq .reg (.seq .reg .leaf)))
def F_own_Cutter (c_0 c_1 : Int) (c_2_a : OA) (c_2_l c_2_c : Nat) (c_3 : Int) (w : World) (R : Value → WP) : Prop :=
 (kAlloc w #[(Iv c_0), (Iv c_1), (.slice c_2_a c_2_l c_2_c), (Iv c_3)] Ty_api_Cutter fun x z =>
 (kAlloc z #[Iv (0 : Int), Iv (0 : Int), .slice none 0 0, Iv (0 : Int)] Ty_api_Cutter fun p q =>
 (kLdS q ⟨x, 2, none⟩ fun t v u =>
 (CP N_own_List #[(.slice t v u)] q fun y aa =>
 ∃ j : OA, ∃ l k : Nat, y = .returned (.slice j l k) ∧
 (kSet aa ⟨x, 2, none⟩ (.slice j l k) fun r =>
 (∃ m n : Int, ∃ d : OA, ∃ f e : Nat, ∃ o : Int, cellsAt r ⟨x, 0, none⟩ 0 [(Iv m), (Iv n), (.slice d f e), (Iv o)] ∧
 (sxStore r ⟨p, 0, none⟩ 0 [(Iv m), (Iv n), (.slice d f e), (Iv o)] fun s =>
 (∃ g h : Int, ∃ a : OA, ∃ c b : Nat, ∃ i : Int, cellsAt s ⟨p, 0, none⟩ 0 [(Iv g), (Iv h), (.slice a c b), (Iv i)] ∧
 R (.agg #[Iv g, Iv h, .slice a c b, Iv i]) s))))))))
theorem F_own_Cutter_ok {R : EP} (c_0 c_1 : Int) (c_2_a : OA) (c_2_l c_2_c : Nat) (c_3 : Int) (w : World) (h : F_own_Cutter c_0 c_1 c_2_a c_2_l c_2_c c_3 w fun v w' => R (.returned v) w') : CP N_own_Cutter #[(.agg #[Iv c_0, Iv c_1, .slice c_2_a c_2_l c_2_c, Iv c_3])] w R :=
 calls_of (k := TTk) (h := h_own_Cutter) (f := 47) follows_ok Tryz.func47 (Eq.mpr (by kernel_rfl) h)

def h_unack_sized : H := (.seq .reg (.seq .reg .leaf))
def F_unack_sized (_ : OA) (b_l _ : Nat) (w : World) (R : Value → WP) : Prop :=
 (bsplit (decide ((b_l : Int) ≥ (1 : Int)))
 ((kLet (decide ((b_l : Int) ≤ (2054 : Int))) fun a =>
 R (.bool a) w))
 (R (.bool false) w))
theorem F_unack_sized_ok {R : EP} (b_a : OA) (b_l b_c : Nat) (w : World) (h : F_unack_sized b_a b_l b_c w fun v w' => R (.returned v) w') : CP N_unack_sized #[(.slice b_a b_l b_c)] w R :=
 calls_of (k := TTk) (h := h_unack_sized) (f := 48) follows_ok Tryz.func48 (Eq.mpr (by kernel_rfl) h)

def h_slices_Clone_Sbyte_byte : H := (.seq .reg (.seq (.seq .reg (.cond (.seq .reg .leaf) .leaf)) (.seq .reg .leaf)))
def F_slices_Clone_Sbyte_byte (s_a : OA) (s_l s_c : Nat) (w : World) (R : Value → WP) : Prop :=
 (bsplit s_a.isNone
 (R (.slice none 0 0) w)
 ((kAlloc w #[] Ty_uint8 fun f d =>
 (AppP Tryz.prog #[Ty_S_uint8, Ty_S_uint8] Ty_S_uint8 #[(.slice (some ⟨f, 0, none⟩) 0 0), (.slice s_a s_l s_c)] d fun a c b e =>
 R (.slice a c b) e))))
theorem F_slices_Clone_Sbyte_byte_ok {R : EP} (s_a : OA) (s_l s_c : Nat) (w : World) (h : F_slices_Clone_Sbyte_byte s_a s_l s_c w fun v w' => R (.returned v) w') : CP N_slices_Clone_Sbyte_byte #[(.slice s_a s_l s_c)] w R :=
 calls_of (k := TTk) (h := h_slices_Clone_Sbyte_byte) (f := 49) follows_ok Tryz.func49 (Eq.mpr (by kernel_rfl) h)

def h_segment_Cut : H := (.seq .reg (.seq .reg (.seq (.block (.seq .reg (.cond (.seq .reg .leaf) (.seq .reg (.cond (.seq .reg .leaf) .leaf))))) (.seq .reg (.seq .reg (.seq (.seq .reg (.cond (.seq .reg .leaf) .leaf)) (.seq .reg (.seq .reg (.seq (.draw .blk (.one 0 .stable (.one 1 .stable (.one 2 .stable (.one 3 .stable (.one 4 .pre (.one 5 .pre (.one 6 .pre (.one 7 .pre (.one 9 .stable (.one 8 .keep (.one 10 .keep (.one 11 .stable (.one 12 .last .nil)))))))))))))) (.seq .reg (.seq (.draw .blk (.one 0 .pre (.one 1 .pre (.one 4 .stable (.one 5 .stable (.one 2 .keep (.one 3 .keep (.one 8 .stable (.one 6 .keep (.one 7 .keep (.one 9 .keep (.one 10 .stable (.one 11 .last .nil))))))))))))) (.seq (.draw .blk (.one 0 .pre (.one 1 .stable (.one 2 .keep (.one 3 .keep (.one 4 .stable .nil)))))) .leaf))))))))))))
def F_segment_Cut (bits p_0 p_1 p_2 p_3 : Int) (p_4_a : OA) (p_4_l p_4_c : Nat) (size : Int) (w : World) (R : Value → WP) : Prop :=
 (kAlloc w #[(Iv p_0), (Iv p_1), (Iv p_2), (Iv p_3), (.slice p_4_a p_4_l p_4_c)] Ty_api_Piece fun a2 d5 =>
 (kAlloc d5 #[Iv (0 : Int), Iv (0 : Int), Iv (0 : Int), Iv (0 : Int), .slice none 0 0] Ty_api_Piece fun a d6 =>
 (kAlloc d6 #[Iv (0 : Int), Iv (0 : Int), Iv (0 : Int), Iv (0 : Int), .slice none 0 0] Ty_api_Piece fun b dx =>
 (kLd dx ⟨a2, 1, none⟩ .i64 fun eg =>
 (CP N_segment_head #[(Iv eg)] dx fun d4 dy =>
 ∃ d2 : Int, d4 = .returned (Iv d2) ∧
 (∃ c4 c5 c6 c7 : Int, ∃ ay : OA, ∃ a0 az : Nat, cellsAt dy ⟨a2, 0, none⟩ 0 [(Iv c4), (Iv c5), (Iv c6), (Iv c7), (.slice ay a0 az)] ∧
 (CP N_segment_Valid #[(Iv bits), (.agg #[Iv c4, Iv c5, Iv c6, Iv c7, .slice ay a0 az])] dy fun df cm =>
 ∃ dm : Bool, df = .returned (.bool dm) ∧
 (bsplit (!dm)
 ((sxStore cm ⟨a, 0, none⟩ 0 [(Iv (0 : Int)), (Iv (0 : Int)), (Iv (0 : Int)), (Iv (0 : Int)), (.slice none 0 0)] fun d7 =>
 (sxStore d7 ⟨b, 0, none⟩ 0 [(Iv (0 : Int)), (Iv (0 : Int)), (Iv (0 : Int)), (Iv (0 : Int)), (.slice none 0 0)] fun c9 =>
 (∃ cn co cp cq : Int, ∃ au : OA, ∃ aw av : Nat, cellsAt c9 ⟨a, 0, none⟩ 0 [(Iv cn), (Iv co), (Iv cp), (Iv cq), (.slice au aw av)] ∧
 (∃ a3 ba bh bo : Int, ∃ e : OA, ∃ s l : Nat, cellsAt c9 ⟨b, 0, none⟩ 0 [(Iv a3), (Iv ba), (Iv bh), (Iv bo), (.slice e s l)] ∧
 R (.tuple #[(.agg #[Iv cn, Iv co, Iv cp, Iv cq, .slice au aw av]), (.agg #[Iv a3, Iv ba, Iv bh, Iv bo, .slice e s l]), (Iv (1 : Int))]) c9)))))
 ((kW .i64 (d2 + (1 : Int)) fun d9 =>
 (kLet (decide (size < d9)) fun ea =>
 (bsplit ea
 ((sxStore cm ⟨a, 0, none⟩ 0 [(Iv (0 : Int)), (Iv (0 : Int)), (Iv (0 : Int)), (Iv (0 : Int)), (.slice none 0 0)] fun d8 =>
 (sxStore d8 ⟨b, 0, none⟩ 0 [(Iv (0 : Int)), (Iv (0 : Int)), (Iv (0 : Int)), (Iv (0 : Int)), (.slice none 0 0)] fun da =>
 (∃ a4 bb bi bp : Int, ∃ f : OA, ∃ t m : Nat, cellsAt da ⟨a, 0, none⟩ 0 [(Iv a4), (Iv bb), (Iv bi), (Iv bp), (.slice f t m)] ∧
 (∃ a5 bc bj bq : Int, ∃ g : OA, ∃ u n : Nat, cellsAt da ⟨b, 0, none⟩ 0 [(Iv a5), (Iv bc), (Iv bj), (Iv bq), (.slice g u n)] ∧
 R (.tuple #[(.agg #[Iv a4, Iv bb, Iv bi, Iv bp, .slice f t m]), (.agg #[Iv a5, Iv bc, Iv bj, Iv bq, .slice g u n]), (Iv (15 : Int))]) da)))))
 ((∃ b0 b5 ca cf : Int, ∃ ad : OA, ∃ an ai : Nat, cellsAt cm ⟨a2, 0, none⟩ 0 [(Iv b0), (Iv b5), (Iv ca), (Iv cf), (.slice ad an ai)] ∧
 (sxStore cm ⟨a, 0, none⟩ 0 [(Iv b0), (Iv b5), (Iv ca), (Iv cf), (.slice ad an ai)] fun cu =>
 (kLdS cu ⟨a2, 4, none⟩ fun dz d1 d0 =>
 (CP N_slices_Clone_Sbyte_byte #[(.slice dz d1 d0)] cu fun dg ds =>
 ∃ cr : OA, ∃ ct cs : Nat, dg = .returned (.slice cr ct cs) ∧
 (kSet ds ⟨a, 4, none⟩ (.slice cr ct cs) fun aa =>
 (kLdS aa ⟨a2, 4, none⟩ fun _ de _ =>
 (kW .i64 (d2 + (de : Int)) fun eb =>
 (bsplit (decide (eb ≤ size))
 ((∃ b1 b6 cb cg : Int, ∃ ae : OA, ∃ ao aj : Nat, cellsAt aa ⟨a, 0, none⟩ 0 [(Iv b1), (Iv b6), (Iv cb), (Iv cg), (.slice ae ao aj)] ∧
 (sxStore aa ⟨a, 0, none⟩ 0 [(Iv b1), (Iv b6), (Iv cb), (Iv cg), (.slice ae ao aj)] fun dt =>
 (sxStore dt ⟨b, 0, none⟩ 0 [(Iv (0 : Int)), (Iv (0 : Int)), (Iv (0 : Int)), (Iv (0 : Int)), (.slice none 0 0)] fun bz =>
 (∃ a6 bd bk br : Int, ∃ h : OA, ∃ v o : Nat, cellsAt bz ⟨a, 0, none⟩ 0 [(Iv a6), (Iv bd), (Iv bk), (Iv br), (.slice h v o)] ∧
 (∃ a7 be bl bs : Int, ∃ i : OA, ∃ x p : Nat, cellsAt bz ⟨b, 0, none⟩ 0 [(Iv a7), (Iv be), (Iv bl), (Iv bs), (.slice i x p)] ∧
 R (.tuple #[(.agg #[Iv a6, Iv bd, Iv bk, Iv br, .slice h v o]), (.agg #[Iv a7, Iv be, Iv bl, Iv bs, .slice i x p]), (Iv (0 : Int))]) bz))))))
 ((kW .i64 (size - d2) fun c =>
 (∃ b2 b7 cc ch : Int, ∃ af : OA, ∃ ap ak : Nat, cellsAt aa ⟨a2, 0, none⟩ 0 [(Iv b2), (Iv b7), (Iv cc), (Iv ch), (.slice af ap ak)] ∧
 (sxStore aa ⟨b, 0, none⟩ 0 [(Iv b2), (Iv b7), (Iv cc), (Iv ch), (.slice af ap ak)] fun du =>
 (kDrew du fun ab =>
 (∃ d3 : Nat → Prop,
 (d3 a2 ∧
 (kLd ab ⟨a2, 3, none⟩ .i64 fun ec =>
 (kW .i64 (ec + c) fun ed =>
 (kLdS ab ⟨a2, 4, none⟩ fun db cl ck =>
 ((0 ≤ c ∧ c ≤ ((cl : Nat) : Int)) ∧ (CP N_slices_Clone_Sbyte_byte #[(.slice (slAddr ck (c.toNat) 1 db) (cl - c.toNat) (ck - c.toNat))] ab fun dh cv =>
 ∃ bv : OA, ∃ bx bw : Nat, dh = .returned (.slice bv bx bw) ∧
 (KeepsB d3 ab cv ∧ (kSet cv ⟨b, 3, none⟩ (Iv ed) fun cw =>
 (KeepsB d3 ab cw ∧ (kSet cw ⟨b, 4, none⟩ (.slice bv bx bw) fun cx =>
 (kLdS cx ⟨a, 4, none⟩ fun dc _ dd =>
 ((0 ≤ c ∧ c ≤ ((dd : Nat) : Int)) ∧ ((0 ≤ c ∧ c ≤ ((c.toNat : Nat) : Int)) ∧ (kSet cx ⟨a, 4, none⟩ (.slice (slAddr (c.toNat) 0 1 dc) (c.toNat - 0) (c.toNat - 0)) fun dv =>
 (kDrew dv fun d =>
 (∃ a1 : Nat → Prop,
 (kLd d ⟨a2, 1, none⟩ .i64 fun ee =>
 (a1 a2 ∧
 (kLd d ⟨a2, 1, none⟩ .i64 fun ef =>
 (CP N_segment_begins #[(Iv ee)] d fun di cy =>
 ∃ dn : Bool, di = .returned (.bool dn) ∧
 (KeepsB a1 d cy ∧ (CP N_segment_Part #[(.bool dn), (.bool false)] cy fun dj cz =>
 ∃ dp : Int, dj = .returned (Iv dp) ∧
 (KeepsB a1 d cz ∧ (CP N_segment_Ends #[(Iv ef)] cz fun dk c0 =>
 ∃ dq : Bool, dk = .returned (.bool dq) ∧
 (KeepsB a1 d c0 ∧ (CP N_segment_Part #[(.bool false), (.bool dq)] c0 fun dl c1 =>
 ∃ dr : Int, dl = .returned (Iv dr) ∧
 (KeepsB a1 d c1 ∧ (kSet c1 ⟨a, 1, none⟩ (Iv dp) fun c2 =>
 (KeepsB a1 d c2 ∧ (kSet c2 ⟨b, 1, none⟩ (Iv dr) fun dw =>
 (kDrew dw fun ac =>
 (∃ c8 : Nat → Prop,
 (∃ b3 b8 cd ci : Int, ∃ ag : OA, ∃ aq al : Nat, cellsAt ac ⟨a, 0, none⟩ 0 [(Iv b3), (Iv b8), (Iv cd), (Iv ci), (.slice ag aq al)] ∧
 (c8 b ∧
 (∃ b4 b9 ce cj : Int, ∃ ah : OA, ∃ ar am : Nat, cellsAt ac ⟨b, 0, none⟩ 0 [(Iv b4), (Iv b9), (Iv ce), (Iv cj), (.slice ah ar am)] ∧
 (sxStore ac ⟨a, 0, none⟩ 0 [(Iv b3), (Iv b8), (Iv cd), (Iv ci), (.slice ag aq al)] fun c3 =>
 (KeepsB c8 ac c3 ∧ (sxStore c3 ⟨b, 0, none⟩ 0 [(Iv b4), (Iv b9), (Iv ce), (Iv cj), (.slice ah ar am)] fun ax =>
 (KeepsB c8 ac ax ∧ (∃ a8 bf bm bt : Int, ∃ j : OA, ∃ y q : Nat, cellsAt ax ⟨a, 0, none⟩ 0 [(Iv a8), (Iv bf), (Iv bm), (Iv bt), (.slice j y q)] ∧
 (∃ a9 bg bn bu : Int, ∃ k : OA, ∃ z r : Nat, cellsAt ax ⟨b, 0, none⟩ 0 [(Iv a9), (Iv bg), (Iv bn), (Iv bu), (.slice k z r)] ∧
 R (.tuple #[(.agg #[Iv a8, Iv bf, Iv bm, Iv bt, .slice j y q]), (.agg #[Iv a9, Iv bg, Iv bn, Iv bu, .slice k z r]), (Iv (0 : Int))]) ax))))))))))))))))))))))))))))))))))))))))))))))))))))))))))))))))))))
theorem F_segment_Cut_ok {R : EP} (bits p_0 p_1 p_2 p_3 : Int) (p_4_a : OA) (p_4_l p_4_c : Nat) (size : Int) (w : World) (h : F_segment_Cut bits p_0 p_1 p_2 p_3 p_4_a p_4_l p_4_c size w fun v w' => R (.returned v) w') : CP N_segment_Cut #[(Iv bits), (.agg #[Iv p_0, Iv p_1, Iv p_2, Iv p_3, .slice p_4_a p_4_l p_4_c]), (Iv size)] w R :=
 calls_of (k := TTk) (h := h_segment_Cut) (f := 50) follows_ok Tryz.func50 (Eq.mpr (by kernel_rfl) h)

def h_unack_piece : H := (.seq .reg (.seq (.seq .reg (.cond (.seq .reg .leaf) .leaf)) (.seq .reg .leaf)))
def F_unack_piece (sn offset : Int) (data_a : OA) (data_l data_c : Nat) (w : World) (R : Value → WP) : Prop :=
 (kAlloc w #[Iv (0 : Int), Iv (0 : Int), Iv (0 : Int), Iv (0 : Int), .slice none 0 0] Ty_api_Piece fun r o =>
 (bsplit (decide (offset = (0 : Int)))
 ((sxStore o ⟨r, 0, none⟩ 0 [(Iv sn), (Iv (0 : Int)), (Iv (0 : Int)), (Iv (0 : Int)), (.slice data_a data_l data_c)] fun p =>
 (∃ k l m n : Int, ∃ d : OA, ∃ f e : Nat, cellsAt p ⟨r, 0, none⟩ 0 [(Iv k), (Iv l), (Iv m), (Iv n), (.slice d f e)] ∧
 R (.agg #[Iv k, Iv l, Iv m, Iv n, .slice d f e]) p)))
 ((sxStore o ⟨r, 0, none⟩ 0 [(Iv sn), (Iv (2 : Int)), (Iv (0 : Int)), (Iv offset), (.slice data_a data_l data_c)] fun q =>
 (∃ g h i j : Int, ∃ a : OA, ∃ c b : Nat, cellsAt q ⟨r, 0, none⟩ 0 [(Iv g), (Iv h), (Iv i), (Iv j), (.slice a c b)] ∧
 R (.agg #[Iv g, Iv h, Iv i, Iv j, .slice a c b]) q)))))
theorem F_unack_piece_ok {R : EP} (sn offset : Int) (data_a : OA) (data_l data_c : Nat) (w : World) (h : F_unack_piece sn offset data_a data_l data_c w fun v w' => R (.returned v) w') : CP N_unack_piece #[(Iv sn), (Iv offset), (.slice data_a data_l data_c)] w R :=
 calls_of (k := TTk) (h := h_unack_piece) (f := 51) follows_ok Tryz.func51 (Eq.mpr (by kernel_rfl) h)

def h_segment_Encode : H := (.seq .reg (.seq (.seq .reg (.cond (.seq .reg .leaf) .leaf)) (.seq .reg (.seq .reg (.seq (.seq .reg (.cond .reg .leaf)) (.seq .reg .leaf))))))
def F_segment_Encode (bits p_0 p_1 p_2 p_3 : Int) (p_4_a : OA) (p_4_l p_4_c : Nat) (w : World) (R : Value → WP) : Prop :=
 (kAlloc w #[(Iv p_0), (Iv p_1), (Iv p_2), (Iv p_3), (.slice p_4_a p_4_l p_4_c)] Ty_api_Piece fun f aa =>
 (∃ g h i j : Int, ∃ a : OA, ∃ c b : Nat, cellsAt aa ⟨f, 0, none⟩ 0 [(Iv g), (Iv h), (Iv i), (Iv j), (.slice a c b)] ∧
 (CP N_segment_Valid #[(Iv bits), (.agg #[Iv g, Iv h, Iv i, Iv j, .slice a c b])] aa fun ap d =>
 ∃ a3 : Bool, ap = .returned (.bool a3) ∧
 (bsplit (!a3)
 (R (.tuple #[(.slice none 0 0), (Iv (1 : Int))]) d)
 ((kLd d ⟨f, 2, none⟩ .i64 fun a4 =>
 (kW .i64 (a4 * 2 ^ 14) fun av =>
 (kLet (bOr .i64 (32768 : Int) av) fun aw =>
 (kLd d ⟨f, 1, none⟩ .i64 fun ax =>
 (kW .i64 (ax * 2 ^ 12) fun ay =>
 (kLet (bOr .i64 aw ay) fun az =>
 (kLd d ⟨f, 0, none⟩ .i64 fun a0 =>
 (kLet (bOr .i64 az a0) fun ak =>
 (kLet (Int.fdiv ak (2 ^ 8)) fun a1 =>
 (kW .u8 (a1) fun a2 =>
 (kW .u8 (ak) fun ad =>
 (kAlloc d #[(.int .u8 a2), (.int .u8 ad)] Ty_uint8 fun x ab =>
 (kLd ab ⟨f, 1, none⟩ .i64 fun ae =>
 (CP N_segment_begins #[(Iv ae)] ab fun y e =>
 ∃ z : Bool, y = .returned (.bool z) ∧
 (bsplit (!z)
 ((kLd e ⟨f, 3, none⟩ .i64 fun af =>
 (kLet (Int.fdiv af (2 ^ 8)) fun ag =>
 (kW .u8 (ag) fun ah =>
 (kLd e ⟨f, 3, none⟩ .i64 fun ai =>
 (kW .u8 (ai) fun aj =>
 (kAlloc e #[(.int .u8 ah), (.int .u8 aj)] Ty_uint8 fun ao aq =>
 (AppP Tryz.prog #[Ty_S_uint8, Ty_S_uint8] Ty_S_uint8 #[(.slice (some ⟨x, 0, none⟩) 2 2), (.slice (some ⟨ao, 0, none⟩) 2 2)] aq fun al an am ac =>
 (kLdS ac ⟨f, 4, none⟩ fun k s o =>
 (AppP Tryz.prog #[Ty_S_uint8, Ty_S_uint8] Ty_S_uint8 #[(.slice al an am), (.slice k s o)] ac fun l t p ar =>
 R (.tuple #[(.slice l t p), (Iv (0 : Int))]) ar))))))))))
 ((kLdS e ⟨f, 4, none⟩ fun m u q =>
 (AppP Tryz.prog #[Ty_S_uint8, Ty_S_uint8] Ty_S_uint8 #[(.slice (some ⟨x, 0, none⟩) 2 2), (.slice m u q)] e fun n v r au =>
 R (.tuple #[(.slice n v r), (Iv (0 : Int))]) au)))))))))))))))))))))))
theorem F_segment_Encode_ok {R : EP} (bits p_0 p_1 p_2 p_3 : Int) (p_4_a : OA) (p_4_l p_4_c : Nat) (w : World) (h : F_segment_Encode bits p_0 p_1 p_2 p_3 p_4_a p_4_l p_4_c w fun v w' => R (.returned v) w') : CP N_segment_Encode #[(Iv bits), (.agg #[Iv p_0, Iv p_1, Iv p_2, Iv p_3, .slice p_4_a p_4_l p_4_c])] w R :=
 calls_of (k := TTk) (h := h_segment_Encode) (f := 52) follows_ok Tryz.func52 (Eq.mpr (by kernel_rfl) h)

def h_serial_Low : H := (.seq .reg (.seq (.seq .reg (.cond (.seq .reg .leaf) .leaf)) (.seq .reg .leaf)))
def F_serial_Low (n x : Int) (w : World) (R : Value → WP) : Prop :=
 (CP N_serial_valid #[(Iv n)] w fun b a =>
 ∃ f : Bool, b = .returned (.bool f) ∧
 (bsplit (!f)
 (R (Iv (-1 : Int)) a)
 ((0 ≤ n ∧ (kW .i64 ((1 : Int) * 2 ^ (min n.toNat (IntKind.bits .i64))) fun c =>
 (kW .i64 (c - (1 : Int)) fun d =>
 (kLet (bAnd .i64 x d) fun e =>
 R (Iv e) a)))))))
theorem F_serial_Low_ok {R : EP} (n x : Int) (w : World) (h : F_serial_Low n x w fun v w' => R (.returned v) w') : CP N_serial_Low #[(Iv n), (Iv x)] w R :=
 calls_of (k := TTk) (h := h_serial_Low) (f := 53) follows_ok Tryz.func53 (Eq.mpr (by kernel_rfl) h)

def h_slices_ContainsFunc_SSbyte_Sbyte : H := (.seq .reg (.seq .reg .leaf))
def F_slices_ContainsFunc_SSbyte_Sbyte (s_a : OA) (s_l s_c f_g : Nat) (f_f : Array Value) (f_c : Array Value) (w : World) (R : Value → WP) : Prop :=
 (CP N_slices_IndexFunc_SSbyte_Sbyte #[(.slice s_a s_l s_c), (.func (.func f_g) f_f f_c)] w fun a b =>
 ∃ c : Int, a = .returned (Iv c) ∧
 (kLet (decide (c ≥ (0 : Int))) fun d =>
 R (.bool d) b))
theorem F_slices_ContainsFunc_SSbyte_Sbyte_ok {R : EP} (s_a : OA) (s_l s_c f_g : Nat) (f_f : Array Value) (f_c : Array Value) (w : World) (h : F_slices_ContainsFunc_SSbyte_Sbyte s_a s_l s_c f_g f_f f_c w fun v w' => R (.returned v) w') : CP N_slices_ContainsFunc_SSbyte_Sbyte #[(.slice s_a s_l s_c), (.func (.func f_g) f_f f_c)] w R :=
 calls_of (k := TTk) (h := h_slices_ContainsFunc_SSbyte_Sbyte) (f := 54) follows_ok Tryz.func54 (Eq.mpr (by kernel_rfl) h)

def h_unack_Valid_1 : H := (.seq .reg (.seq .reg .leaf))
def F_unack_Valid_1 (b_a : OA) (b_l b_c : Nat) (w : World) (R : Value → WP) : Prop :=
 (CP N_unack_sized #[(.slice b_a b_l b_c)] w fun a b =>
 ∃ c : Bool, a = .returned (.bool c) ∧
 R (.bool (!c)) b)
theorem F_unack_Valid_1_ok {R : EP} (b_a : OA) (b_l b_c : Nat) (w : World) (h : F_unack_Valid_1 b_a b_l b_c w fun v w' => R (.returned v) w') : CP N_unack_Valid_1 #[(.slice b_a b_l b_c)] w R :=
 calls_of (k := TTk) (h := h_unack_Valid_1) (f := 55) follows_ok Tryz.func55 (Eq.mpr (by kernel_rfl) h)

def h_ref20_ValidLink : H := (.seq .reg (.seq .reg .leaf))
def F_ref20_ValidLink (l_0 l_1 l_2 l_3 l_4 l_5 : Int) (w : World) (R : Value → WP) : Prop :=
 (kAlloc w #[(Iv l_0), (Iv l_1), (Iv l_2), (Iv l_3), (Iv l_4), (Iv l_5)] Ty_api_Link fun b c =>
 (kLd c ⟨b, 0, none⟩ .i64 fun q =>
 (CP N_ref15_Bits #[(Iv q)] c fun f a =>
 ∃ p : Bool, f = .returned (.bool p) ∧
 (bsplit p
 ((kLd a ⟨b, 1, none⟩ .i64 fun g =>
 (bsplit (decide (g ≥ (1 : Int)))
 ((kLd a ⟨b, 1, none⟩ .i64 fun h =>
 (bsplit (decide (h ≤ (64 : Int)))
 ((kLd a ⟨b, 2, none⟩ .i64 fun i =>
 (bsplit (decide (i ≥ (1 : Int)))
 ((kLd a ⟨b, 2, none⟩ .i64 fun j =>
 (bsplit (decide (j ≤ (1000 : Int)))
 ((kLd a ⟨b, 3, none⟩ .i64 fun k =>
 (bsplit (decide (k ≥ (1 : Int)))
 ((kLd a ⟨b, 3, none⟩ .i64 fun l =>
 (bsplit (decide (l ≤ (1000 : Int)))
 ((kLd a ⟨b, 4, none⟩ .i64 fun m =>
 (bsplit (decide (m ≥ (0 : Int)))
 ((kLd a ⟨b, 4, none⟩ .i64 fun n =>
 (bsplit (decide (n ≤ (1000 : Int)))
 ((kLd a ⟨b, 5, none⟩ .i64 fun o =>
 (bsplit (decide (o ≥ (1 : Int)))
 ((kLd a ⟨b, 5, none⟩ .i64 fun d =>
 (kLet (decide (d ≤ (32 : Int))) fun e =>
 R (.bool e) a)))
 (R (.bool false) a))))
 (R (.bool false) a))))
 (R (.bool false) a))))
 (R (.bool false) a))))
 (R (.bool false) a))))
 (R (.bool false) a))))
 (R (.bool false) a))))
 (R (.bool false) a))))
 (R (.bool false) a))))
 (R (.bool false) a)))))
theorem F_ref20_ValidLink_ok {R : EP} (l_0 l_1 l_2 l_3 l_4 l_5 : Int) (w : World) (h : F_ref20_ValidLink l_0 l_1 l_2 l_3 l_4 l_5 w fun v w' => R (.returned v) w') : CP N_ref20_ValidLink #[(.agg #[Iv l_0, Iv l_1, Iv l_2, Iv l_3, Iv l_4, Iv l_5])] w R :=
 calls_of (k := TTk) (h := h_ref20_ValidLink) (f := 56) follows_ok Tryz.func56 (Eq.mpr (by kernel_rfl) h)

def h_roll_SameAll : H := (.seq .reg (.seq (.seq .reg (.cond (.seq .reg .leaf) .leaf)) (.seq (.seq .reg (.block (.loop [(5, .p (.int .i64))] [4, 5, 11, 12, 13, 14, 15, 16, 17, 18, 19, 20, 21, 22, 23, 24, 25, 26, 27] (.seq (.seq .reg (.cond .leaf .leaf)) (.seq (.block (.seq (.draw .blk (.one 0 .stable (.one 1 .stable (.one 2 .stable (.one 3 .stable (.one 5 .stable (.one 6 .stable (.one 7 .stable (.one 8 .stable (.alt 4 (.one 9 .keep (.one 10 .stable .nil)) (.alt 9 (.one 4 .keep (.one 10 .stable .nil)) .endAlt))))))))))) (.cond (.seq .reg .leaf) .leaf))) .reg))))) (.seq .reg .leaf))))
def F_roll_SameAll (a_a : OA) (a_l _ : Nat) (b_a : OA) (b_l _ : Nat) (w : World) (R : Value → WP) : Prop :=
 (bsplit (!decide ((a_l : Int) = (b_l : Int)))
 (R (.bool false) w)
 ((∃ f : Int → Nat × (WP), (f (0 : Int)).2 w ∧
 (∀ (_ : Env) (b : Int) (j : World), (f b).2 j →
 (bsplit (decide (b < (a_l : Int)))
 ((kDrew j fun a =>
 (∃ k : Nat → Prop,
 (kIx a_a a_l b fun r =>
 (k (r.add (b.toNat * 1)).block ∧
 (kLdS a (r.add (b.toNat * 1)) fun g i h =>
 (kIx b_a b_l b fun l =>
 (k (l.add (b.toNat * 1)).block ∧
 (kLdS a (l.add (b.toNat * 1)) fun c e d =>
 ((ConvS Tryz.prog Ty_S_uint8 Ty_string (.slice g i h) a fun p =>
 (KeepsB k a a ∧ (ConvS Tryz.prog Ty_S_uint8 Ty_string (.slice c e d) a fun q =>
 (KeepsB k a a ∧ (bsplit (!(p == q))
 (R (.bool false) a)
 ((kW .i64 (b + (1 : Int)) fun n =>
 ((f n).2 a ∧ (f n).1 < (f b).1)))))))) ∧
 ((ConvS Tryz.prog Ty_S_uint8 Ty_string (.slice c e d) a fun s =>
 (KeepsB k a a ∧ (ConvS Tryz.prog Ty_S_uint8 Ty_string (.slice g i h) a fun o =>
 (KeepsB k a a ∧ (bsplit (!(o == s))
 (R (.bool false) a)
 ((kW .i64 (b + (1 : Int)) fun m =>
 ((f m).2 a ∧ (f m).1 < (f b).1)))))))) ∧
 True)))))))))))
 (R (.bool true) j))))))
theorem F_roll_SameAll_ok {R : EP} (a_a : OA) (a_l a_c : Nat) (b_a : OA) (b_l b_c : Nat) (w : World) (h : F_roll_SameAll a_a a_l a_c b_a b_l b_c w fun v w' => R (.returned v) w') : CP N_roll_SameAll #[(.slice a_a a_l a_c), (.slice b_a b_l b_c)] w R :=
 calls_of (k := TTk) (h := h_roll_SameAll) (f := 57) follows_ok Tryz.func57 (Eq.mpr (by kernel_rfl) h)

def h_ref23_bits : H := (.seq .reg (.seq .reg .leaf))
def F_ref23_bits (n : Int) (w : World) (R : Value → WP) : Prop :=
 (bsplit (decide (n ≥ (5 : Int)))
 ((kLet (decide (n ≤ (9 : Int))) fun a =>
 R (.bool a) w))
 (R (.bool false) w))
theorem F_ref23_bits_ok {R : EP} (n : Int) (w : World) (h : F_ref23_bits n w fun v w' => R (.returned v) w') : CP N_ref23_bits #[(Iv n)] w R :=
 calls_of (k := TTk) (h := h_ref23_bits) (f := 58) follows_ok Tryz.func58 (Eq.mpr (by kernel_rfl) h)

def h_slices_Clone_Sapi_Partial_api_Partial : H := (.seq .reg (.seq (.seq .reg (.cond (.seq .reg .leaf) .leaf)) (.seq .reg .leaf)))
def F_slices_Clone_Sapi_Partial_api_Partial (s_a : OA) (s_l s_c : Nat) (w : World) (R : Value → WP) : Prop :=
 (bsplit s_a.isNone
 (R (.slice none 0 0) w)
 ((kAlloc w #[] Ty_api_Partial fun f d =>
 (AppP Tryz.prog #[Ty_S_api_Partial, Ty_S_api_Partial] Ty_S_api_Partial #[(.slice (some ⟨f, 0, none⟩) 0 0), (.slice s_a s_l s_c)] d fun a c b e =>
 R (.slice a c b) e))))
theorem F_slices_Clone_Sapi_Partial_api_Partial_ok {R : EP} (s_a : OA) (s_l s_c : Nat) (w : World) (h : F_slices_Clone_Sapi_Partial_api_Partial s_a s_l s_c w fun v w' => R (.returned v) w') : CP N_slices_Clone_Sapi_Partial_api_Partial #[(.slice s_a s_l s_c)] w R :=
 calls_of (k := TTk) (h := h_slices_Clone_Sapi_Partial_api_Partial) (f := 59) follows_ok Tryz.func59 (Eq.mpr (by kernel_rfl) h)

def h_slices_Clone_Sapi_Range_api_Range : H := (.seq .reg (.seq (.seq .reg (.cond (.seq .reg .leaf) .leaf)) (.seq .reg .leaf)))
def F_slices_Clone_Sapi_Range_api_Range (s_a : OA) (s_l s_c : Nat) (w : World) (R : Value → WP) : Prop :=
 (bsplit s_a.isNone
 (R (.slice none 0 0) w)
 ((kAlloc w #[] Ty_api_Range fun f d =>
 (AppP Tryz.prog #[Ty_S_api_Range, Ty_S_api_Range] Ty_S_api_Range #[(.slice (some ⟨f, 0, none⟩) 0 0), (.slice s_a s_l s_c)] d fun a c b e =>
 R (.slice a c b) e))))
theorem F_slices_Clone_Sapi_Range_api_Range_ok {R : EP} (s_a : OA) (s_l s_c : Nat) (w : World) (h : F_slices_Clone_Sapi_Range_api_Range s_a s_l s_c w fun v w' => R (.returned v) w') : CP N_slices_Clone_Sapi_Range_api_Range #[(.slice s_a s_l s_c)] w R :=
 calls_of (k := TTk) (h := h_slices_Clone_Sapi_Range_api_Range) (f := 60) follows_ok Tryz.func60 (Eq.mpr (by kernel_rfl) h)

def h_sender_ValidLink : H := (.seq .reg (.cut [(3, .p .bool)] [3, 4, 5, 6, 7, 8, 9, 10, 11, 12, 13, 14, 15, 16] .reg (.seq .reg .leaf)))
def F_sender_ValidLink (l_0 l_1 l_2 l_3 l_4 l_5 : Int) (w : World) (R : Value → WP) : Prop :=
 (kAlloc w #[(Iv l_0), (Iv l_1), (Iv l_2), (Iv l_3), (Iv l_4), (Iv l_5)] Ty_api_Link fun g r =>
 (∃ s : Bool → WP,
 (∀ (_ : Env) (a : Bool) (e : World), s a e →
 (kLd e ⟨g, 0, none⟩ .i64 fun z =>
 (CP N_counter_Bits #[(Iv z)] e fun j f =>
 ∃ o : Bool, j = .returned (.bool o) ∧
 (bsplit o
 ((kLd f ⟨g, 1, none⟩ .i64 fun aa =>
 (CP N_sender_between #[(Iv aa), (Iv (1 : Int)), (Iv (64 : Int))] f fun k b =>
 ∃ p : Bool, k = .returned (.bool p) ∧
 (bsplit p
 ((bsplit a
 ((kLd b ⟨g, 5, none⟩ .i64 fun ab =>
 (CP N_sender_between #[(Iv ab), (Iv (1 : Int)), (Iv (32 : Int))] b fun l v =>
 ∃ q : Bool, l = .returned (.bool q) ∧
 R (.bool q) v)))
 (R (.bool false) b)))
 (R (.bool false) b)))))
 (R (.bool false) f))))) ∧
 (kLd r ⟨g, 2, none⟩ .i64 fun ad =>
 (CP N_sender_between #[(Iv ad), (Iv (1 : Int)), (Iv (1000 : Int))] r fun t c =>
 ∃ ac : Bool, t = .returned (.bool ac) ∧
 (bsplit ac
 ((kLd c ⟨g, 3, none⟩ .i64 fun x =>
 (CP N_sender_between #[(Iv x), (Iv (1 : Int)), (Iv (1000 : Int))] c fun h d =>
 ∃ m : Bool, h = .returned (.bool m) ∧
 (bsplit m
 ((kLd d ⟨g, 4, none⟩ .i64 fun y =>
 (CP N_sender_between #[(Iv y), (Iv (0 : Int)), (Iv (1000 : Int))] d fun i u =>
 ∃ n : Bool, i = .returned (.bool n) ∧
 s n u)))
 (s false d)))))
 (s false c))))))
theorem F_sender_ValidLink_ok {R : EP} (l_0 l_1 l_2 l_3 l_4 l_5 : Int) (w : World) (h : F_sender_ValidLink l_0 l_1 l_2 l_3 l_4 l_5 w fun v w' => R (.returned v) w') : CP N_sender_ValidLink #[(.agg #[Iv l_0, Iv l_1, Iv l_2, Iv l_3, Iv l_4, Iv l_5])] w R :=
 calls_of (k := TTk) (h := h_sender_ValidLink) (f := 61) follows_ok Tryz.func61 (Eq.mpr (by kernel_rfl) h)

def h_receiver_side_number : H := (.seq .reg (.seq .reg .leaf))
def F_receiver_side_number (s_b s_o : Nat) (n : Int) (w : World) (R : Value → WP) : Prop :=
 (bsplit (decide (n ≥ (0 : Int)))
 ((kLd w ⟨s_b, s_o, none⟩ .i64 fun c =>
 (0 ≤ c ∧ (kW .i64 ((1 : Int) * 2 ^ (min c.toNat (IntKind.bits .i64))) fun a =>
 (kLet (decide (n < a)) fun b =>
 R (.bool b) w)))))
 (R (.bool false) w))
theorem F_receiver_side_number_ok {R : EP} (s_b s_o : Nat) (n : Int) (w : World) (h : F_receiver_side_number s_b s_o n w fun v w' => R (.returned v) w') : CP N_receiver_side_number #[(.pointer (some ⟨s_b, s_o, none⟩)), (Iv n)] w R :=
 calls_of (k := TTk) (h := h_receiver_side_number) (f := 62) follows_ok Tryz.func62 (Eq.mpr (by kernel_rfl) h)

def h_receiver_side_place : H := (.seq .reg (.seq (.draw .blk (.one 0 .pre (.one 1 .pre (.one 2 .pre (.one 3 .pre (.one 4 .pre (.one 5 .pre (.one 6 .pre (.one 7 .pre (.one 8 .pre (.one 9 .pre (.one 10 .pre (.one 11 .pre (.one 12 .keep (.one 13 .stable .nil))))))))))))))) .leaf))
def F_receiver_side_place (s_b s_o : Nat) (n : Int) (w : World) (R : Value → WP) : Prop :=
 (kDrew w fun a =>
 (∃ f : Nat → Prop,
 (kLd a ⟨s_b, s_o, none⟩ .i64 fun g =>
 (kLd a ⟨s_b, s_o + 6, none⟩ .i64 fun d =>
 (CP N_serial_Distance #[(Iv g), (Iv d), (Iv n)] a fun c b =>
 ∃ e : Int, c = .returned (Iv e) ∧
 (KeepsB f a b ∧ R (Iv e) b))))))
theorem F_receiver_side_place_ok {R : EP} (s_b s_o : Nat) (n : Int) (w : World) (h : F_receiver_side_place s_b s_o n w fun v w' => R (.returned v) w') : CP N_receiver_side_place #[(.pointer (some ⟨s_b, s_o, none⟩)), (Iv n)] w R :=
 calls_of (k := TTk) (h := h_receiver_side_place) (f := 63) follows_ok Tryz.func63 (Eq.mpr (by kernel_rfl) h)

def h_receiver_side_partials : H := (.seq .reg (.seq .reg (.seq (.seq .reg (.cond (.seq (.draw .no (.one 0 .stable (.one 1 .stable (.one 2 .stable (.one 3 .stable (.one 4 .stable (.one 5 .stable (.one 6 .stable (.one 7 .stable (.one 8 .stable (.one 9 .stable (.one 10 .stable (.one 11 .stable .nil))))))))))))) .leaf) .leaf)) (.seq (.seq .reg (.block (.loop [(32, .p (.int .i64))] [2, 4, 5, 32, 33, 34, 35, 36, 37, 38, 39, 40, 41, 42, 43, 44, 45, 46, 47, 48, 49, 50, 51, 52, 53, 54, 55, 56, 57, 58, 59, 60, 61, 62, 63, 64, 65, 66, 67, 68, 69, 70, 71, 72, 73, 74, 75, 76, 77, 78, 79, 80, 81, 82, 83, 84] (.seq .reg (.seq (.cond .leaf .leaf) (.seq (.block (.seq .reg (.cut [(83, .p .bool)] [37, 38, 39, 40, 41, 42, 43, 44, 45, 46, 47, 48, 49, 50, 51, 52, 53, 54, 55, 56, 57, 58, 59, 60, 61, 62, 63, 64, 65, 66, 67, 68, 69, 70, 71, 72, 73, 74, 75, 76, 77, 78, 79, 80, 81, 82, 83] (.draw .blk (.one 0 .pre (.one 1 .pre (.one 2 .pre (.one 3 .keep (.one 4 .stable (.one 5 .stable (.one 6 .stable (.one 7 .keep (.one 8 .stable (.one 9 .stable (.one 10 .stable (.one 11 .stable (.one 12 .stable (.one 13 .stable (.one 15 .stable (.one 16 .stable (.one 17 .stable (.one 18 .stable (.one 19 .stable (.one 20 .stable (.one 14 .keep (.one 21 .keep (.one 22 .stable (.one 23 .stable (.one 24 .stable (.one 25 .stable (.one 26 .stable (.one 27 .stable (.one 28 .stable (.one 29 .stable (.one 30 .stable (.one 32 .stable (.one 33 .stable (.one 34 .stable (.one 35 .stable (.one 36 .stable (.one 37 .stable (.one 38 .stable (.one 39 .stable (.one 40 .stable (.one 41 .stable (.one 42 .stable (.one 31 .keep (.one 43 .keep (.one 44 .stable (.one 45 .stable (.one 46 .stable .nil)))))))))))))))))))))))))))))))))))))))))))))))) (.cond (.seq .reg .leaf) .leaf)))) .reg)))))) (.seq .reg (.seq (.draw .blk (.one 0 .pre (.one 1 .pre (.one 2 .pre (.one 3 .pre (.one 4 .pre (.one 5 .pre (.one 6 .pre (.one 7 .pre (.one 8 .pre (.one 9 .pre (.one 10 .pre (.one 11 .pre (.one 12 .pre (.one 13 .pre (.one 14 .pre (.one 15 .pre (.one 16 .pre (.one 17 .pre (.one 18 .pre (.one 19 .pre (.one 20 .pre (.one 21 .pre (.one 22 .pre (.one 23 .pre (.one 24 .pre (.one 26 .stable (.one 27 .stable (.one 28 .stable (.one 29 .stable (.one 30 .stable (.one 25 .keep (.one 31 .stable (.one 32 .stable (.one 33 .stable .nil))))))))))))))))))))))))))))))))))) .leaf))))))
def F_receiver_side_partials (s_b s_o : Nat) (w : World) (R : Value → WP) : Prop :=
 (kLdS w ⟨s_b, s_o + 13, none⟩ fun _ ag _ =>
 (bsplit (decide ((ag : Int) = (0 : Int)))
 ((kDrew w fun ay =>
 (kLd ay ⟨s_b, s_o + 7, none⟩ .i64 fun ck =>
 (kLd ay ⟨s_b, s_o + 6, none⟩ .i64 fun cb =>
 (kLet (decide (ck = cb)) fun cc =>
 R (.bool cc) ay)))))
 ((kLdS w ⟨s_b, s_o + 13, none⟩ fun a2 ah _ =>
 (∃ bc : Int → Nat × (WP), (bc (0 : Int)).2 w ∧
 (∀ (_ : Env) (d : Int) (x : World), (bc d).2 x →
 (bsplit (decide (d < (ah : Int)))
 ((kIx a2 ah d fun cj =>
 (∃ au : Int, ∃ av : Bool, ∃ aw : Int, ∃ q : OA, ∃ s r : Nat, ∃ t : OA, ∃ v u : Nat, cellsAt x (cj.add (d.toNat * 5)) 0 [(Iv au), (.bool av), (Iv aw), (.slice q s r), (.slice t v u)] ∧
 (kAlloc x #[Iv (0 : Int), .bool false, Iv (0 : Int), .slice none 0 0, .slice none 0 0] Ty_api_Partial fun c b9 =>
 (sxStore b9 ⟨c, 0, none⟩ 0 [(Iv au), (.bool av), (Iv aw), (.slice q s r), (.slice t v u)] fun ca =>
 (∃ bb : Bool → WP,
 (∀ (_ : Env) (ao : Bool) (z : World), bb ao z →
 (bsplit ao
 (R (.bool false) z)
 ((kW .i64 (d + (1 : Int)) fun ap =>
 ((bc ap).2 z ∧ (bc ap).1 < (bc d).1))))) ∧
 (kDrew ca fun b =>
 (∃ y : Nat → Prop,
 (kLd b ⟨c, 0, none⟩ .i64 fun cd =>
 (CP N_receiver_side_number #[(.pointer (some ⟨s_b, s_o, none⟩)), (Iv cd)] b fun b8 az =>
 ∃ ci : Bool, b8 = .returned (.bool ci) ∧
 (KeepsB y b az ∧ (bsplit (!ci)
 (bb true az)
 ((y c ∧
 (∃ aa : Int, ∃ ac : Bool, ∃ ae : Int, ∃ e : OA, ∃ i g : Nat, ∃ k : OA, ∃ o m : Nat, cellsAt b ⟨c, 0, none⟩ 0 [(Iv aa), (.bool ac), (Iv ae), (.slice e i g), (.slice k o m)] ∧
 (CP N_receiver_partial #[(.agg #[Iv aa, .bool ac, Iv ae, .slice e i g, .slice k o m])] az fun be a0 =>
 ∃ bl : Bool, be = .returned (.bool bl) ∧
 (KeepsB y b a0 ∧ (bsplit (!bl)
 (bb true a0)
 ((y c ∧
 (kLd b ⟨c, 0, none⟩ .i64 fun ce =>
 (y s_b ∧
 (kLd b ⟨s_b, s_o + 7, none⟩ .i64 fun cf =>
 (CP N_receiver_side_place #[(.pointer (some ⟨s_b, s_o, none⟩)), (Iv ce)] a0 fun bf bu =>
 ∃ bm : Int, bf = .returned (Iv bm) ∧
 (KeepsB y b bu ∧ (CP N_receiver_side_place #[(.pointer (some ⟨s_b, s_o, none⟩)), (Iv cf)] bu fun bg aj =>
 ∃ bn : Int, bg = .returned (Iv bn) ∧
 (KeepsB y b aj ∧ (bsplit (decide (bm ≥ bn))
 (bb true aj)
 ((bsplit (decide (d > (0 : Int)))
 ((y c ∧
 (kLd b ⟨c, 0, none⟩ .i64 fun cg =>
 (y s_b ∧
 (kLdS b ⟨s_b, s_o + 13, none⟩ fun a3 a7 _ =>
 (kW .i64 (d - (1 : Int)) fun a1 =>
 (kIx a3 a7 a1 fun bd =>
 (y (bd.add (a1.toNat * 5)).block ∧
 (kLd b (bd.add (a1.toNat * 5)) .i64 fun ch =>
 (CP N_receiver_side_place #[(.pointer (some ⟨s_b, s_o, none⟩)), (Iv cg)] aj fun bh ak =>
 ∃ bo : Int, bh = .returned (Iv bo) ∧
 (KeepsB y b ak ∧ (CP N_receiver_side_place #[(.pointer (some ⟨s_b, s_o, none⟩)), (Iv ch)] ak fun bi al =>
 ∃ bp : Int, bi = .returned (Iv bp) ∧
 (KeepsB y b al ∧ bb (decide (bo ≤ bp)) al)))))))))))))
 (bb false aj)))))))))))))))))))))))))))))))
 ((kLdS x ⟨s_b, s_o + 13, none⟩ fun a4 a8 _ =>
 (kIx a4 a8 (0 : Int) fun b5 =>
 (∃ ab : Int, ∃ ad : Bool, ∃ af : Int, ∃ f : OA, ∃ j h : Nat, ∃ l : OA, ∃ p n : Nat, cellsAt x (b5.add ((0 : Int).toNat * 5)) 0 [(Iv ab), (.bool ad), (Iv af), (.slice f j h), (.slice l p n)] ∧
 (kAlloc x #[Iv (0 : Int), .bool false, Iv (0 : Int), .slice none 0 0, .slice none 0 0] Ty_api_Partial fun ax bs =>
 (sxStore bs ⟨ax, 0, none⟩ 0 [(Iv ab), (.bool ad), (Iv af), (.slice f j h), (.slice l p n)] fun bt =>
 (kDrew bt fun a =>
 (∃ ai : Nat → Prop,
 (kLdB a ⟨ax, 1, none⟩ fun bv =>
 (bsplit bv
 ((kLd a ⟨ax, 0, none⟩ .i64 fun bw =>
 (kLd a ⟨s_b, s_o + 6, none⟩ .i64 fun bx =>
 (bsplit (!(decide (bw = bx)))
 ((kLdS a ⟨s_b, s_o + 13, none⟩ fun a5 a9 _ =>
 (kW .i64 ((ag : Int) - (1 : Int)) fun aq =>
 (kIx a5 a9 aq fun b6 =>
 (kLd a (b6.add (aq.toNat * 5)) .i64 fun bz =>
 (ai s_b ∧
 (kLd a ⟨s_b, s_o + 7, none⟩ .i64 fun b0 =>
 (CP N_receiver_side_behind #[(.pointer (some ⟨s_b, s_o, none⟩)), (Iv bz)] a fun bj am =>
 ∃ bq : Int, bj = .returned (Iv bq) ∧
 (KeepsB ai a am ∧ (kLet (decide (bq = b0)) fun b1 =>
 R (.bool b1) am))))))))))
 (R (.bool false) a)))))
 ((kLdS a ⟨s_b, s_o + 13, none⟩ fun a6 ba _ =>
 (kW .i64 ((ag : Int) - (1 : Int)) fun ar =>
 (kIx a6 ba ar fun b7 =>
 (kLd a (b7.add (ar.toNat * 5)) .i64 fun b2 =>
 (ai s_b ∧
 (kLd a ⟨s_b, s_o + 7, none⟩ .i64 fun b3 =>
 (CP N_receiver_side_behind #[(.pointer (some ⟨s_b, s_o, none⟩)), (Iv b2)] a fun bk an =>
 ∃ br : Int, bk = .returned (Iv br) ∧
 (KeepsB ai a an ∧ (kLet (decide (br = b3)) fun b4 =>
 R (.bool b4) an)))))))))))))))))))))))))))
theorem F_receiver_side_partials_ok {R : EP} (s_b s_o : Nat) (w : World) (h : F_receiver_side_partials s_b s_o w fun v w' => R (.returned v) w') : CP N_receiver_side_partials #[(.pointer (some ⟨s_b, s_o, none⟩))] w R :=
 calls_of (k := TTk) (h := h_receiver_side_partials) (f := 64) follows_ok Tryz.func64 (Eq.mpr (by kernel_rfl) h)

def h_unack_expire_1 : H := (.seq .reg (.seq (.draw .no (.one 0 .pre (.one 1 .pur (.one 2 .pur (.one 3 .pur (.one 4 .pre (.one 5 .pre (.one 6 .pur (.one 7 .pur (.one 8 .pre (.one 9 .pur (.one 10 .last (.one 11 .pur .nil))))))))))))) .leaf))
def F_unack_expire_1 (sn : Int) (cap0_b cap0_o : Nat) (w : World) (R : Value → WP) : Prop :=
 (kDrew w fun a =>
 (∃ j : OA, a.cell? ⟨cap0_b, cap0_o, none⟩ = some (.pointer j) ∧
 (kNil j fun e =>
 (kLd a e .i64 fun f =>
 (∃ b : OA, a.cell? ⟨cap0_b, cap0_o, none⟩ = some (.pointer b) ∧
 (kNil b fun g =>
 (kLd a (g.add 6) .i64 fun h =>
 (CP N_serial_Distance #[(Iv f), (Iv h), (Iv sn)] a fun c d =>
 ∃ i : Int, c = .returned (Iv i) ∧
 R (Iv i) d))))))))
theorem F_unack_expire_1_ok {R : EP} (sn : Int) (cap0_b cap0_o : Nat) (w : World) (h : F_unack_expire_1 sn cap0_b cap0_o w fun v w' => R (.returned v) w') : CP N_unack_expire_1 #[(Iv sn), (.pointer (some ⟨cap0_b, cap0_o, none⟩))] w R :=
 calls_of (k := TTk) (h := h_unack_expire_1) (f := 65) follows_ok Tryz.func65 (Eq.mpr (by kernel_rfl) h)

def h_serial_Distance : H := (.seq .reg (.seq .reg .leaf))
def F_serial_Distance (n a b : Int) (w : World) (R : Value → WP) : Prop :=
 (kW .i64 (b - a) fun f =>
 (CP N_serial_Low #[(Iv n), (Iv f)] w fun c d =>
 ∃ e : Int, c = .returned (Iv e) ∧
 R (Iv e) d))
theorem F_serial_Distance_ok {R : EP} (n a b : Int) (w : World) (h : F_serial_Distance n a b w fun v w' => R (.returned v) w') : CP N_serial_Distance #[(Iv n), (Iv a), (Iv b)] w R :=
 calls_of (k := TTk) (h := h_serial_Distance) (f := 66) follows_ok Tryz.func66 (Eq.mpr (by kernel_rfl) h)

def h_slices_DeleteFunc_Sapi_Partial_api_Partial : H := (.seq .reg (.seq .reg (.seq (.seq .reg (.cond (.seq .reg .leaf) .leaf)) (.seq (.seq .reg (.block (.loop [(5, .p (.int .i64)), (6, .p (.int .i64))] [5, 6, 7, 16, 17, 18, 19, 20, 21, 22, 23, 24, 25, 26, 27, 28, 29, 30, 31, 32, 33, 34, 35] (.seq (.seq .reg (.cond .leaf .leaf)) (.seq (.block (.seq .reg (.seq .reg (.cond (.seq .reg .reg) .leaf)))) .reg))))) (.seq .reg (.seq .reg .leaf))))))
def F_slices_DeleteFunc_Sapi_Partial_api_Partial (s_a : OA) (s_l s_c del_g : Nat) (del_f : Array Value) (del_c : Array Value) (w : World) (R : Value → WP) : Prop :=
 (CP N_slices_IndexFunc_Sapi_Partial_api_Partial #[(.slice s_a s_l s_c), (.func (.func del_g) del_f del_c)] w fun ar ak =>
 ∃ ap : Int, ar = .returned (Iv ap) ∧
 (bsplit (decide (ap = (-1 : Int)))
 (R (.slice s_a s_l s_c) ak)
 ((kW .i64 (ap + (1 : Int)) fun ay =>
 (∃ ab : Int → Int → Nat × (WP), (ab ap ay).2 ak ∧
 (∀ (_ : Env) (m : Int) (ac : Int) (aa : World), (ab m ac).2 aa →
 (bsplit (decide (ac < (s_l : Int)))
 ((kIx s_a s_l ac fun ax =>
 (∃ ad : Int, ∃ ae : Bool, ∃ af : Int, ∃ n : OA, ∃ p o : Nat, ∃ q : OA, ∃ s r : Nat, cellsAt aa (ax.add (ac.toNat * 5)) 0 [(Iv ad), (.bool ae), (Iv af), (.slice n p o), (.slice q s r)] ∧
 (kAlloc aa #[Iv (0 : Int), .bool false, Iv (0 : Int), .slice none 0 0, .slice none 0 0] Ty_api_Partial fun ag au =>
 (sxStore au ⟨ag, 0, none⟩ 0 [(Iv ad), (.bool ae), (Iv af), (.slice n p o), (.slice q s r)] fun al =>
 (∃ t : Int, ∃ v : Bool, ∃ y : Int, ∃ a : OA, ∃ e c : Nat, ∃ g : OA, ∃ k i : Nat, cellsAt al ⟨ag, 0, none⟩ 0 [(Iv t), (.bool v), (Iv y), (.slice a e c), (.slice g k i)] ∧
 (okFn Tryz.prog del_g = true ∧ CP del_g (del_f ++ #[(.agg #[Iv t, .bool v, Iv y, .slice a e c, .slice g k i])] ++ del_c) al fun ai ah =>
 ∃ aj : Bool, ai = .returned (.bool aj) ∧
 (bsplit (!aj)
 ((∃ u : Int, ∃ x : Bool, ∃ z : Int, ∃ b : OA, ∃ f d : Nat, ∃ h : OA, ∃ l j : Nat, cellsAt ah ⟨ag, 0, none⟩ 0 [(Iv u), (.bool x), (Iv z), (.slice b f d), (.slice h l j)] ∧
 (kIx s_a s_l m fun aq =>
 (sxStore ah (aq.add (m.toNat * 5)) 0 [(Iv u), (.bool x), (Iv z), (.slice b f d), (.slice h l j)] fun av =>
 (kW .i64 (m + (1 : Int)) fun am =>
 (kW .i64 (ac + (1 : Int)) fun an =>
 ((ab am an).2 av ∧ (ab am an).1 < (ab m ac).1)))))))
 ((kW .i64 (ac + (1 : Int)) fun ao =>
 ((ab m ao).2 ah ∧ (ab m ao).1 < (ab m ac).1)))))))))))
 (((0 ≤ m ∧ m ≤ ((s_l : Nat) : Int)) ∧ (ClearP Tryz.prog #[Ty_S_api_Partial] Ty_unit #[(.slice (slAddr s_c (m.toNat) 5 s_a) (s_l - m.toNat) (s_c - m.toNat))] aa fun aw =>
 ((0 ≤ m ∧ m ≤ ((s_c : Nat) : Int)) ∧ R (.slice (slAddr s_c 0 5 s_a) (m.toNat - 0) (s_c - 0)) aw)))))))))))
theorem F_slices_DeleteFunc_Sapi_Partial_api_Partial_ok {R : EP} (s_a : OA) (s_l s_c del_g : Nat) (del_f : Array Value) (del_c : Array Value) (w : World) (h : F_slices_DeleteFunc_Sapi_Partial_api_Partial s_a s_l s_c del_g del_f del_c w fun v w' => R (.returned v) w') : CP N_slices_DeleteFunc_Sapi_Partial_api_Partial #[(.slice s_a s_l s_c), (.func (.func del_g) del_f del_c)] w R :=
 calls_of (k := TTk) (h := h_slices_DeleteFunc_Sapi_Partial_api_Partial) (f := 67) follows_ok Tryz.func67 (Eq.mpr (by kernel_rfl) h)

def h_unack_expire_2 : H := (.seq .reg (.seq (.draw .blk (.one 0 .pre (.one 1 .pur (.one 2 .pre (.one 4 .stable (.one 3 .keep (.one 5 .pur (.one 6 .pur .nil)))))))) .leaf))
def F_unack_expire_2 (p_0 : Int) (p_1 : Bool) (p_2 : Int) (p_3_a : OA) (p_3_l p_3_c : Nat) (p_4_a : OA) (p_4_l p_4_c cap0_b cap0_o cap1_b cap1_o : Nat) (w : World) (R : Value → WP) : Prop :=
 (kAlloc w #[(Iv p_0), (.bool p_1), (Iv p_2), (.slice p_3_a p_3_l p_3_c), (.slice p_4_a p_4_l p_4_c)] Ty_api_Partial fun l g =>
 (kDrew g fun a =>
 (∃ j : Nat → Prop,
 (∃ b : Nat, ∃ d : Array Value, ∃ c : Array Value, a.cell? ⟨cap0_b, cap0_o, none⟩ = some (.func (.func b) d c) ∧
 (kLd a ⟨l, 0, none⟩ .i64 fun m =>
 (j cap1_b ∧
 (kLd a ⟨cap1_b, cap1_o, none⟩ .i64 fun h =>
 (okFn Tryz.prog b = true ∧ CP b (d ++ #[(Iv m)] ++ c) a fun f e =>
 ∃ k : Int, f = .returned (Iv k) ∧
 (KeepsB j a e ∧ (kLet (decide (k < h)) fun i =>
 R (.bool i) e))))))))))
theorem F_unack_expire_2_ok {R : EP} (p_0 : Int) (p_1 : Bool) (p_2 : Int) (p_3_a : OA) (p_3_l p_3_c : Nat) (p_4_a : OA) (p_4_l p_4_c cap0_b cap0_o cap1_b cap1_o : Nat) (w : World) (h : F_unack_expire_2 p_0 p_1 p_2 p_3_a p_3_l p_3_c p_4_a p_4_l p_4_c cap0_b cap0_o cap1_b cap1_o w fun v w' => R (.returned v) w') : CP N_unack_expire_2 #[(.agg #[Iv p_0, .bool p_1, Iv p_2, .slice p_3_a p_3_l p_3_c, .slice p_4_a p_4_l p_4_c]), (.pointer (some ⟨cap0_b, cap0_o, none⟩)), (.pointer (some ⟨cap1_b, cap1_o, none⟩))] w R :=
 calls_of (k := TTk) (h := h_unack_expire_2) (f := 68) follows_ok Tryz.func68 (Eq.mpr (by kernel_rfl) h)

end Go.Proofs.YtlgolgpellbnbaaGreat
