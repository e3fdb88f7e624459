import Derived.Test.YthceaojjeokclaaGreatBase
import Derived.KernelRfl
namespace Go.Proofs.YthceaojjeokclaaGreat
open Go.Sx Go.RowKit
set_option maxRecDepth 100000

def h_law21_awake : H := (.seq .reg (.seq .reg (.seq .reg (.seq .reg (.seq .reg (.seq .reg (.seq .reg (.seq .reg .leaf))))))))
def F_law21_awake  (w : World) (R : Value → WP) : Prop :=
 (CP N_receiver_New #[(.agg #[Iv (5 : Int), Iv (4 : Int), Iv (3 : Int), Iv (3 : Int), Iv (0 : Int), Iv (4 : Int)])] w fun d0 d3 =>
 ∃ ck cl cm cn co cp cq cr cs ct av aw : Int, ∃ ax : Bool, ∃ q : OA, ∃ s r : Nat, ∃ ed : Int, d0 = .returned (.tuple #[(.agg #[Iv ck, Iv cl, Iv cm, Iv cn, Iv co, Iv cp, Iv cq, Iv cr, Iv cs, Iv ct, Iv av, Iv aw, .bool ax, .slice q s r]), (Iv ed)]) ∧
 (kAlloc d3 #[Iv (0 : Int), Iv (0 : Int), Iv (0 : Int), Iv (0 : Int), Iv (0 : Int), Iv (0 : Int), Iv (0 : Int), Iv (0 : Int), Iv (0 : Int), Iv (0 : Int), Iv (0 : Int), Iv (0 : Int), .bool false, .slice none 0 0] Ty_api_Receiver fun cj d4 =>
 (sxStore d4 ⟨cj, 0, none⟩ 0 [(Iv ck), (Iv cl), (Iv cm), (Iv cn), (Iv co), (Iv cp), (Iv cq), (Iv cr), (Iv cs), (Iv ct), (Iv av), (Iv aw), (.bool ax), (.slice q s r)] fun d5 =>
 (kAlloc d5 #[(.int .u8 (3 : Int))] Ty_uint8 fun dw d6 =>
 (CP N_ref18_Encode #[(Iv (5 : Int)), (.agg #[Iv (0 : Int), Iv (2 : Int), Iv (1 : Int), Iv (2 : Int), .slice (some ⟨dw, 0, none⟩) 1 1])] d6 fun de d7 =>
 ∃ cu : OA, ∃ cw cv : Nat, ∃ d1 : Int, de = .returned (.tuple #[(.slice cu cw cv), (Iv d1)]) ∧
 (kAlloc d7 #[(.int .u8 (1 : Int)), (.int .u8 (2 : Int))] Ty_uint8 fun dx d8 =>
 (CP N_ref18_Encode #[(Iv (5 : Int)), (.agg #[Iv (0 : Int), Iv (1 : Int), Iv (0 : Int), Iv (0 : Int), .slice (some ⟨dx, 0, none⟩) 2 2])] d8 fun df dt =>
 ∃ bg : OA, ∃ bj bi : Nat, ∃ d2 : Int, df = .returned (.tuple #[(.slice bg bj bi), (Iv d2)]) ∧
 (∃ cy cz c0 c1 c2 c3 c4 c5 c6 c7 bo bp : Int, ∃ bq : Bool, ∃ t : OA, ∃ v u : Nat, cellsAt dt ⟨cj, 0, none⟩ 0 [(Iv cy), (Iv cz), (Iv c0), (Iv c1), (Iv c2), (Iv c3), (Iv c4), (Iv c5), (Iv c6), (Iv c7), (Iv bo), (Iv bp), (.bool bq), (.slice t v u)] ∧
 (CP N_receiver_Receive #[(.agg #[Iv cy, Iv cz, Iv c0, Iv c1, Iv c2, Iv c3, Iv c4, Iv c5, Iv c6, Iv c7, Iv bo, Iv bp, .bool bq, .slice t v u]), (.slice cu cw cv)] dt fun dg d9 =>
 ∃ aq ay a0 a2 a4 a6 a8 ba bc be y aa : Int, ∃ ac : Bool, ∃ b : OA, ∃ f d : Nat, ∃ c9 : OA, ∃ bk da : Nat, ∃ dk : Int, dg = .returned (.tuple #[(.agg #[Iv aq, Iv ay, Iv a0, Iv a2, Iv a4, Iv a6, Iv a8, Iv ba, Iv bc, Iv be, Iv y, Iv aa, .bool ac, .slice b f d]), (.slice c9 bk da), (Iv dk)]) ∧
 (sxStore d9 ⟨cj, 0, none⟩ 0 [(Iv aq), (Iv ay), (Iv a0), (Iv a2), (Iv a4), (Iv a6), (Iv a8), (Iv ba), (Iv bc), (Iv be), (Iv y), (Iv aa), (.bool ac), (.slice b f d)] fun du =>
 (∃ bl br bu bx b1 b4 b7 ca cd cg ah ak : Int, ∃ an : Bool, ∃ h : OA, ∃ n k : Nat, cellsAt du ⟨cj, 0, none⟩ 0 [(Iv bl), (Iv br), (Iv bu), (Iv bx), (Iv b1), (Iv b4), (Iv b7), (Iv ca), (Iv cd), (Iv cg), (Iv ah), (Iv ak), (.bool an), (.slice h n k)] ∧
 (CP N_receiver_Status #[(.agg #[Iv bl, Iv br, Iv bu, Iv bx, Iv b1, Iv b4, Iv b7, Iv ca, Iv cd, Iv cg, Iv ah, Iv ak, .bool an, .slice h n k])] du fun dh dp =>
 ∃ ar : Int, ∃ ae : OA, ∃ ag af : Nat, ∃ dl : Int, dh = .returned (.tuple #[(.agg #[Iv ar, .slice ae ag af]), (Iv dl)]) ∧
 (kAlloc dp #[Iv (0 : Int), .slice none 0 0] Ty_api_Status fun c8 dq =>
 (sxStore dq ⟨c8, 0, none⟩ 0 [(Iv ar), (.slice ae ag af)] fun cx =>
 (∃ bm bs bv bz b2 b5 b8 cb ce ch ai al : Int, ∃ ao : Bool, ∃ i : OA, ∃ o l : Nat, cellsAt cx ⟨cj, 0, none⟩ 0 [(Iv bm), (Iv bs), (Iv bv), (Iv bz), (Iv b2), (Iv b5), (Iv b8), (Iv cb), (Iv ce), (Iv ch), (Iv ai), (Iv al), (.bool ao), (.slice i o l)] ∧
 (CP N_receiver_Receive #[(.agg #[Iv bm, Iv bs, Iv bv, Iv bz, Iv b2, Iv b5, Iv b8, Iv cb, Iv ce, Iv ch, Iv ai, Iv al, .bool ao, .slice i o l]), (.slice bg bj bi)] cx fun di dr =>
 ∃ au az a1 a3 a5 a7 a9 bb bd bf z ab : Int, ∃ ad : Bool, ∃ c : OA, ∃ g e : Nat, ∃ bh : OA, ∃ x db : Nat, ∃ dm : Int, di = .returned (.tuple #[(.agg #[Iv au, Iv az, Iv a1, Iv a3, Iv a5, Iv a7, Iv a9, Iv bb, Iv bd, Iv bf, Iv z, Iv ab, .bool ad, .slice c g e]), (.slice bh x db), (Iv dm)]) ∧
 (sxStore dr ⟨cj, 0, none⟩ 0 [(Iv au), (Iv az), (Iv a1), (Iv a3), (Iv a5), (Iv a7), (Iv a9), (Iv bb), (Iv bd), (Iv bf), (Iv z), (Iv ab), (.bool ad), (.slice c g e)] fun a =>
 (bsplit (decide (ed = (0 : Int)))
 ((bsplit (decide (dk = (0 : Int)))
 ((bsplit (decide (dl = (0 : Int)))
 ((bsplit (decide (dm = (0 : Int)))
 ((bsplit (decide ((bk : Int) = (0 : Int)))
 ((kLdS a ⟨c8, 1, none⟩ fun _ dv _ =>
 (bsplit (decide ((dv : Int) = (1 : Int)))
 ((kLdS a ⟨c8, 1, none⟩ fun dc dd _ =>
 (kIx dc dd (0 : Int) fun dy =>
 (kLd a ((dy.add ((0 : Int).toNat * 3)).add 2) .i64 fun ee =>
 (bsplit (decide (ee = (2 : Int)))
 ((kLdB a ⟨cj, 12, none⟩ fun ea =>
 (bsplit ea
 ((bsplit (decide ((x : Int) = (3 : Int)))
 ((kIx bh x (2 : Int) fun dz =>
 (kLd a (dz.add ((2 : Int).toNat * 1)) .u8 fun eb =>
 (bsplit (decide (eb = (3 : Int)))
 ((kLd a ⟨cj, 6, none⟩ .i64 fun ec =>
 (bsplit (decide (ec = (1 : Int)))
 ((∃ bn bt bw b0 b3 b6 b9 cc cf ci aj am : Int, ∃ ap : Bool, ∃ j : OA, ∃ p m : Nat, cellsAt a ⟨cj, 0, none⟩ 0 [(Iv bn), (Iv bt), (Iv bw), (Iv b0), (Iv b3), (Iv b6), (Iv b9), (Iv cc), (Iv cf), (Iv ci), (Iv aj), (Iv am), (.bool ap), (.slice j p m)] ∧
 (CP N_receiver_Valid #[(.agg #[Iv bn, Iv bt, Iv bw, Iv b0, Iv b3, Iv b6, Iv b9, Iv cc, Iv cf, Iv ci, Iv aj, Iv am, .bool ap, .slice j p m])] a fun dj ds =>
 ∃ dn : Bool, dj = .returned (.bool dn) ∧
 R (.bool dn) ds)))
 (R (.bool false) a))))
 (R (.bool false) a)))))
 (R (.bool false) a)))
 (R (.bool false) a))))
 (R (.bool false) a))))))
 (R (.bool false) a))))
 (R (.bool false) a)))
 (R (.bool false) a)))
 (R (.bool false) a)))
 (R (.bool false) a)))
 (R (.bool false) a)))))))))))))))))))
theorem F_law21_awake_ok {R : EP}  (w : World) (h : F_law21_awake  w fun v w' => R (.returned v) w') : CP N_law21_awake #[] w R :=
 calls_of (k := TTk) (h := h_law21_awake) (f := 6) follows_ok Tryz.func6 (Eq.mpr (by kernel_rfl) h)

def h_receiver_New : H := (.seq .reg (.seq (.seq .reg (.cond (.seq .reg .leaf) .leaf)) (.seq .reg .leaf)))
def F_receiver_New (l_0 l_1 l_2 l_3 l_4 l_5 : Int) (w : World) (R : Value → WP) : Prop :=
 (kAlloc w #[(Iv l_0), (Iv l_1), (Iv l_2), (Iv l_3), (Iv l_4), (Iv l_5)] Ty_api_Link fun a2 a1 =>
 (kAlloc a1 #[Iv (0 : Int), Iv (0 : Int), Iv (0 : Int), Iv (0 : Int), Iv (0 : Int), Iv (0 : Int), Iv (0 : Int), Iv (0 : Int), Iv (0 : Int), Iv (0 : Int), Iv (0 : Int), Iv (0 : Int), .bool false, .slice none 0 0] Ty_api_Receiver fun ad ax =>
 (∃ ao ap aq ar au av : Int, cellsAt ax ⟨a2, 0, none⟩ 0 [(Iv ao), (Iv ap), (Iv aq), (Iv ar), (Iv au), (Iv av)] ∧
 (CP N_sender_ValidLink #[(.agg #[Iv ao, Iv ap, Iv aq, Iv ar, Iv au, Iv av])] ax fun a0 aw =>
 ∃ a3 : Bool, a0 = .returned (.bool a3) ∧
 (bsplit (!a3)
 ((sxStore aw ⟨ad, 0, none⟩ 0 [(Iv (0 : Int)), (Iv (0 : Int)), (Iv (0 : Int)), (Iv (0 : Int)), (Iv (0 : Int)), (Iv (0 : Int)), (Iv (0 : Int)), (Iv (0 : Int)), (Iv (0 : Int)), (Iv (0 : Int)), (Iv (0 : Int)), (Iv (0 : Int)), (.bool false), (.slice none 0 0)] fun ay =>
 (∃ ae af ag ah ai aj ak al am an k l : Int, ∃ m : Bool, ∃ d : OA, ∃ f e : Nat, cellsAt ay ⟨ad, 0, none⟩ 0 [(Iv ae), (Iv af), (Iv ag), (Iv ah), (Iv ai), (Iv aj), (Iv ak), (Iv al), (Iv am), (Iv an), (Iv k), (Iv l), (.bool m), (.slice d f e)] ∧
 R (.tuple #[(.agg #[Iv ae, Iv af, Iv ag, Iv ah, Iv ai, Iv aj, Iv ak, Iv al, Iv am, Iv an, Iv k, Iv l, .bool m, .slice d f e]), (Iv (3 : Int))]) ay)))
 ((∃ x y z aa ab ac : Int, cellsAt aw ⟨a2, 0, none⟩ 0 [(Iv x), (Iv y), (Iv z), (Iv aa), (Iv ab), (Iv ac)] ∧
 (sxStore aw ⟨ad, 0, none⟩ 0 [(Iv x), (Iv y), (Iv z), (Iv aa), (Iv ab), (Iv ac), (Iv (0 : Int)), (Iv (0 : Int)), (Iv (0 : Int)), (Iv (-1 : Int)), (Iv (0 : Int)), (Iv (0 : Int)), (.bool false), (.slice none 0 0)] fun az =>
 (∃ j n o p q r s t u v g h : Int, ∃ i : Bool, ∃ a : OA, ∃ c b : Nat, cellsAt az ⟨ad, 0, none⟩ 0 [(Iv j), (Iv n), (Iv o), (Iv p), (Iv q), (Iv r), (Iv s), (Iv t), (Iv u), (Iv v), (Iv g), (Iv h), (.bool i), (.slice a c b)] ∧
 R (.tuple #[(.agg #[Iv j, Iv n, Iv o, Iv p, Iv q, Iv r, Iv s, Iv t, Iv u, Iv v, Iv g, Iv h, .bool i, .slice a c b]), (Iv (0 : Int))]) az)))))))))
theorem F_receiver_New_ok {R : EP} (l_0 l_1 l_2 l_3 l_4 l_5 : Int) (w : World) (h : F_receiver_New l_0 l_1 l_2 l_3 l_4 l_5 w fun v w' => R (.returned v) w') : CP N_receiver_New #[(.agg #[Iv l_0, Iv l_1, Iv l_2, Iv l_3, Iv l_4, Iv l_5])] w R :=
 calls_of (k := TTk) (h := h_receiver_New) (f := 7) follows_ok Tryz.func7 (Eq.mpr (by kernel_rfl) h)

def h_ref21_New : H := (.seq .reg (.seq (.seq .reg (.cond (.seq .reg .leaf) .leaf)) (.seq .reg .leaf)))
def F_ref21_New (l_0 l_1 l_2 l_3 l_4 l_5 : Int) (w : World) (R : Value → WP) : Prop :=
 (kAlloc w #[(Iv l_0), (Iv l_1), (Iv l_2), (Iv l_3), (Iv l_4), (Iv l_5)] Ty_api_Link fun a2 a1 =>
 (kAlloc a1 #[Iv (0 : Int), Iv (0 : Int), Iv (0 : Int), Iv (0 : Int), Iv (0 : Int), Iv (0 : Int), Iv (0 : Int), Iv (0 : Int), Iv (0 : Int), Iv (0 : Int), Iv (0 : Int), Iv (0 : Int), .bool false, .slice none 0 0] Ty_api_Receiver fun ad ax =>
 (∃ ao ap aq ar au av : Int, cellsAt ax ⟨a2, 0, none⟩ 0 [(Iv ao), (Iv ap), (Iv aq), (Iv ar), (Iv au), (Iv av)] ∧
 (CP N_ref20_ValidLink #[(.agg #[Iv ao, Iv ap, Iv aq, Iv ar, Iv au, Iv av])] ax fun a0 aw =>
 ∃ a3 : Bool, a0 = .returned (.bool a3) ∧
 (bsplit (!a3)
 ((sxStore aw ⟨ad, 0, none⟩ 0 [(Iv (0 : Int)), (Iv (0 : Int)), (Iv (0 : Int)), (Iv (0 : Int)), (Iv (0 : Int)), (Iv (0 : Int)), (Iv (0 : Int)), (Iv (0 : Int)), (Iv (0 : Int)), (Iv (0 : Int)), (Iv (0 : Int)), (Iv (0 : Int)), (.bool false), (.slice none 0 0)] fun ay =>
 (∃ ae af ag ah ai aj ak al am an k l : Int, ∃ m : Bool, ∃ d : OA, ∃ f e : Nat, cellsAt ay ⟨ad, 0, none⟩ 0 [(Iv ae), (Iv af), (Iv ag), (Iv ah), (Iv ai), (Iv aj), (Iv ak), (Iv al), (Iv am), (Iv an), (Iv k), (Iv l), (.bool m), (.slice d f e)] ∧
 R (.tuple #[(.agg #[Iv ae, Iv af, Iv ag, Iv ah, Iv ai, Iv aj, Iv ak, Iv al, Iv am, Iv an, Iv k, Iv l, .bool m, .slice d f e]), (Iv (3 : Int))]) ay)))
 ((∃ x y z aa ab ac : Int, cellsAt aw ⟨a2, 0, none⟩ 0 [(Iv x), (Iv y), (Iv z), (Iv aa), (Iv ab), (Iv ac)] ∧
 (sxStore aw ⟨ad, 0, none⟩ 0 [(Iv x), (Iv y), (Iv z), (Iv aa), (Iv ab), (Iv ac), (Iv (0 : Int)), (Iv (0 : Int)), (Iv (0 : Int)), (Iv (-1 : Int)), (Iv (0 : Int)), (Iv (0 : Int)), (.bool false), (.slice none 0 0)] fun az =>
 (∃ j n o p q r s t u v g h : Int, ∃ i : Bool, ∃ a : OA, ∃ c b : Nat, cellsAt az ⟨ad, 0, none⟩ 0 [(Iv j), (Iv n), (Iv o), (Iv p), (Iv q), (Iv r), (Iv s), (Iv t), (Iv u), (Iv v), (Iv g), (Iv h), (.bool i), (.slice a c b)] ∧
 R (.tuple #[(.agg #[Iv j, Iv n, Iv o, Iv p, Iv q, Iv r, Iv s, Iv t, Iv u, Iv v, Iv g, Iv h, .bool i, .slice a c b]), (Iv (0 : Int))]) az)))))))))
theorem F_ref21_New_ok {R : EP} (l_0 l_1 l_2 l_3 l_4 l_5 : Int) (w : World) (h : F_ref21_New l_0 l_1 l_2 l_3 l_4 l_5 w fun v w' => R (.returned v) w') : CP N_ref21_New #[(.agg #[Iv l_0, Iv l_1, Iv l_2, Iv l_3, Iv l_4, Iv l_5])] w R :=
 calls_of (k := TTk) (h := h_ref21_New) (f := 8) follows_ok Tryz.func8 (Eq.mpr (by kernel_rfl) h)

def h_ref21_Same : H := (.seq .reg (.seq (.cut [(70, .p .bool)] [8, 9, 10, 11, 12, 13, 14, 15, 16, 17, 18, 19, 20, 21, 22, 23, 24, 25, 26, 27, 28, 29, 30, 31, 32, 33, 34, 35, 36, 37, 38, 39, 40, 41, 42, 43, 44, 45, 46, 47, 48, 49, 50, 51, 52, 53, 54, 55, 56, 57, 58, 59, 60, 61, 62, 63, 64, 65, 66, 67, 68, 69, 70] .reg (.cond (.seq .reg .leaf) .leaf)) (.seq (.seq .reg (.block (.loop [(5, .p (.int .i64))] [4, 5, 6, 7, 71, 72, 73, 74, 75, 76, 77, 78, 79, 80, 81, 82, 83, 84, 85, 86, 87, 88, 89, 90, 91, 92, 93, 94, 95, 96, 97, 98, 99, 100, 101, 102, 103, 104, 105, 106, 107, 108, 109, 110, 111, 112, 113, 114, 115, 116, 117, 118, 119, 120, 121, 122] (.seq (.seq .reg (.cond .leaf .leaf)) (.seq (.block (.cut [(6, .p .addr), (7, .p .addr)] [6, 7, 78, 79, 80, 81, 82, 83, 84, 85, 86, 87] (.draw .blk (.one 0 .stable (.one 1 .stable (.one 2 .stable (.one 3 .stable (.one 4 .stable (.one 5 .stable (.one 6 .stable (.one 7 .stable (.one 8 .stable (.one 9 .stable (.alt 10 (.one 11 .keep (.one 12 .keep (.one 13 .last .nil))) (.alt 11 (.one 10 .keep (.one 12 .keep (.one 13 .last .nil))) .endAlt))))))))))))) (.cut [(122, .p .bool)] [88, 89, 90, 91, 92, 93, 94, 95, 96, 97, 98, 99, 100, 101, 102, 103, 104, 105, 106, 107, 108, 109, 110, 111, 112, 113, 114, 115, 116, 117, 118, 119, 120, 121, 122] .reg (.cond (.seq .reg .leaf) .leaf)))) .reg))))) (.seq .reg .leaf))))
def F_ref21_Same (a_0 a_1 a_2 a_3 a_4 a_5 a_6 a_7 a_8 a_9 a_10 a_11 : Int) (a_12 : Bool) (a_13_a : OA) (a_13_l a_13_c : Nat) (b_0 b_1 b_2 b_3 b_4 b_5 b_6 b_7 b_8 b_9 b_10 b_11 : Int) (b_12 : Bool) (b_13_a : OA) (b_13_l b_13_c : Nat) (w : World) (R : Value → WP) : Prop :=
 (kAlloc w #[(Iv a_0), (Iv a_1), (Iv a_2), (Iv a_3), (Iv a_4), (Iv a_5), (Iv a_6), (Iv a_7), (Iv a_8), (Iv a_9), (Iv a_10), (Iv a_11), (.bool a_12), (.slice a_13_a a_13_l a_13_c)] Ty_api_Receiver fun aa cd =>
 (kAlloc cd #[(Iv b_0), (Iv b_1), (Iv b_2), (Iv b_3), (Iv b_4), (Iv b_5), (Iv b_6), (Iv b_7), (Iv b_8), (Iv b_9), (Iv b_10), (Iv b_11), (.bool b_12), (.slice b_13_a b_13_l b_13_c)] Ty_api_Receiver fun d a =>
 (∃ ai : Bool → WP,
 (∀ (_ : Env) (ap : Bool) (a1 : World), ai ap a1 →
 (bsplit ap
 (R (.bool false) a1)
 ((∃ bl : Int → Nat × (WP), (bl (0 : Int)).2 a1 ∧
 (∀ (_ : Env) (ak : Int) (al : World), (bl ak).2 al →
 (kLdS al ⟨aa, 13, none⟩ fun _ bd _ =>
 (bsplit (decide (ak < (bd : Int)))
 ((∃ a0 : Addr → Addr → WP,
 (∀ (_ : Env) (k : Addr) (bk : Addr) (b : World), a0 k bk b →
 (∃ z : Bool → WP,
 (∀ (_ : Env) (aq : Bool) (ab : World), z aq ab →
 (bsplit aq
 (R (.bool false) ab)
 ((kW .i64 (ak + (1 : Int)) fun ar =>
 ((bl ar).2 ab ∧ (bl ar).1 < (bl ak).1))))) ∧
 (kLd b k .i64 fun b5 =>
 (kLd b bk .i64 fun b6 =>
 (bsplit (!decide (b5 = b6))
 (z true b)
 ((kLdB b (k.add 1) fun b7 =>
 (kLdB b (bk.add 1) fun b8 =>
 (bsplit (!(b7 == b8))
 (z true b)
 ((kLd b (k.add 2) .i64 fun b9 =>
 (kLd b (bk.add 2) .i64 fun ca =>
 (bsplit (!decide (b9 = ca))
 (z true b)
 ((kLdS b (k.add 3) fun a4 bg a8 =>
 (kLdS b (bk.add 3) fun a5 bh a9 =>
 (CP N_ref01_Same #[(.slice a4 bg a8), (.slice a5 bh a9)] b fun cc y =>
 ∃ bt : Bool, cc = .returned (.bool bt) ∧
 (bsplit (!bt)
 (z true y)
 ((kLdS y (k.add 4) fun a6 bi ba =>
 (kLdS y (bk.add 4) fun a7 bj bb =>
 (CP N_ref18_SameRanges #[(.slice a6 bi ba), (.slice a7 bj bb)] y fun bs bw =>
 ∃ bu : Bool, bs = .returned (.bool bu) ∧
 z (!bu) bw)))))))))))))))))))))) ∧
 (kDrew al fun c =>
 (∃ aj : Nat → Prop,
 (aj aa ∧
 (kLdS c ⟨aa, 13, none⟩ fun a2 be _ =>
 (kIx a2 be ak fun bm =>
 (aj (bm.add (ak.toNat * 5)).block ∧
 (∃ r : Int, ∃ t : Bool, ∃ v : Int, ∃ l : OA, ∃ n m : Nat, ∃ o : OA, ∃ q p : Nat, cellsAt c (bm.add (ak.toNat * 5)) 0 [(Iv r), (.bool t), (Iv v), (.slice l n m), (.slice o q p)] ∧
 (aj d ∧
 (kLdS c ⟨d, 13, none⟩ fun a3 bf _ =>
 (kIx a3 bf ak fun bn =>
 (aj (bn.add (ak.toNat * 5)).block ∧
 (∃ s : Int, ∃ u : Bool, ∃ x : Int, ∃ e : OA, ∃ g f : Nat, ∃ h : OA, ∃ j i : Nat, cellsAt c (bn.add (ak.toNat * 5)) 0 [(Iv s), (.bool u), (Iv x), (.slice e g f), (.slice h j i)] ∧
 ((kAlloc c #[Iv (0 : Int), .bool false, Iv (0 : Int), .slice none 0 0, .slice none 0 0] Ty_api_Partial fun bq am =>
 (KeepsB aj c am ∧ (kAlloc am #[Iv (0 : Int), .bool false, Iv (0 : Int), .slice none 0 0, .slice none 0 0] Ty_api_Partial fun br an =>
 (KeepsB aj c an ∧ (sxStore an ⟨bq, 0, none⟩ 0 [(Iv r), (.bool t), (Iv v), (.slice l n m), (.slice o q p)] fun ao =>
 (KeepsB aj c ao ∧ (sxStore ao ⟨br, 0, none⟩ 0 [(Iv s), (.bool u), (Iv x), (.slice e g f), (.slice h j i)] fun bv =>
 a0 ⟨bq, 0, none⟩ ⟨br, 0, none⟩ bv))))))) ∧
 ((kAlloc c #[Iv (0 : Int), .bool false, Iv (0 : Int), .slice none 0 0, .slice none 0 0] Ty_api_Partial fun bo bx =>
 (KeepsB aj c bx ∧ (kAlloc bx #[Iv (0 : Int), .bool false, Iv (0 : Int), .slice none 0 0, .slice none 0 0] Ty_api_Partial fun bp bz =>
 (KeepsB aj c bz ∧ (sxStore bz ⟨bp, 0, none⟩ 0 [(Iv r), (.bool t), (Iv v), (.slice l n m), (.slice o q p)] fun b0 =>
 (KeepsB aj c b0 ∧ (sxStore b0 ⟨bo, 0, none⟩ 0 [(Iv s), (.bool u), (Iv x), (.slice e g f), (.slice h j i)] fun ce =>
 a0 ⟨bp, 0, none⟩ ⟨bo, 0, none⟩ ce))))))) ∧
 True))))))))))))))))
 (R (.bool true) al)))))))) ∧
 (∃ au av aw ax ay az : Int, cellsAt a ⟨aa, 0, none⟩ 0 [(Iv au), (Iv av), (Iv aw), (Iv ax), (Iv ay), (Iv az)] ∧
 (∃ ac ad ae af ag ah : Int, cellsAt a ⟨d, 0, none⟩ 0 [(Iv ac), (Iv ad), (Iv ae), (Iv af), (Iv ag), (Iv ah)] ∧
 (EqP Tryz.prog .neq Ty_api_Link (.tmp 9) (.tmp 11) (.agg #[Iv au, Iv av, Iv aw, Iv ax, Iv ay, Iv az]) (.agg #[Iv ac, Iv ad, Iv ae, Iv af, Iv ag, Iv ah]) fun co =>
 (bsplit co
 (ai true a)
 ((kLd a ⟨aa, 6, none⟩ .i64 fun cp =>
 (kLd a ⟨d, 6, none⟩ .i64 fun cf =>
 (bsplit (!decide (cp = cf))
 (ai true a)
 ((kLd a ⟨aa, 7, none⟩ .i64 fun cg =>
 (kLd a ⟨d, 7, none⟩ .i64 fun ch =>
 (bsplit (!decide (cg = ch))
 (ai true a)
 ((kLd a ⟨aa, 8, none⟩ .i64 fun ci =>
 (kLd a ⟨d, 8, none⟩ .i64 fun cj =>
 (bsplit (!decide (ci = cj))
 (ai true a)
 ((kLd a ⟨aa, 9, none⟩ .i64 fun ck =>
 (kLd a ⟨d, 9, none⟩ .i64 fun cl =>
 (bsplit (!decide (ck = cl))
 (ai true a)
 ((kLd a ⟨aa, 10, none⟩ .i64 fun cm =>
 (kLd a ⟨d, 10, none⟩ .i64 fun cn =>
 (bsplit (!decide (cm = cn))
 (ai true a)
 ((kLd a ⟨aa, 11, none⟩ .i64 fun b1 =>
 (kLd a ⟨d, 11, none⟩ .i64 fun b2 =>
 (bsplit (!decide (b1 = b2))
 (ai true a)
 ((kLdB a ⟨aa, 12, none⟩ fun b3 =>
 (kLdB a ⟨d, 12, none⟩ fun b4 =>
 (bsplit (!(b3 == b4))
 (ai true a)
 ((kLdS a ⟨aa, 13, none⟩ fun _ cb _ =>
 (kLdS a ⟨d, 13, none⟩ fun _ bc _ =>
 ai (!decide ((cb : Int) = (bc : Int))) a))))))))))))))))))))))))))))))))))))))
theorem F_ref21_Same_ok {R : EP} (a_0 a_1 a_2 a_3 a_4 a_5 a_6 a_7 a_8 a_9 a_10 a_11 : Int) (a_12 : Bool) (a_13_a : OA) (a_13_l a_13_c : Nat) (b_0 b_1 b_2 b_3 b_4 b_5 b_6 b_7 b_8 b_9 b_10 b_11 : Int) (b_12 : Bool) (b_13_a : OA) (b_13_l b_13_c : Nat) (w : World) (h : F_ref21_Same a_0 a_1 a_2 a_3 a_4 a_5 a_6 a_7 a_8 a_9 a_10 a_11 a_12 a_13_a a_13_l a_13_c b_0 b_1 b_2 b_3 b_4 b_5 b_6 b_7 b_8 b_9 b_10 b_11 b_12 b_13_a b_13_l b_13_c w fun v w' => R (.returned v) w') : CP N_ref21_Same #[(.agg #[Iv a_0, Iv a_1, Iv a_2, Iv a_3, Iv a_4, Iv a_5, Iv a_6, Iv a_7, Iv a_8, Iv a_9, Iv a_10, Iv a_11, .bool a_12, .slice a_13_a a_13_l a_13_c]), (.agg #[Iv b_0, Iv b_1, Iv b_2, Iv b_3, Iv b_4, Iv b_5, Iv b_6, Iv b_7, Iv b_8, Iv b_9, Iv b_10, Iv b_11, .bool b_12, .slice b_13_a b_13_l b_13_c])] w R :=
 calls_of (k := TTk) (h := h_ref21_Same) (f := 9) follows_ok Tryz.func9 (Eq.mpr (by kernel_rfl) h)

def h_law21_agree : H := (.seq .reg (.seq .reg (.seq .reg (.seq .reg (.seq .reg (.seq .reg (.seq .reg (.seq .reg (.seq .reg (.seq (.draw .blk (.one 0 .pre (.one 2 .stable (.one 1 .keep (.one 3 .keep (.one 4 .pur (.one 5 .pur (.one 6 .pur (.one 7 .pur (.one 8 .pur (.one 9 .pur (.one 10 .pur (.one 11 .pur (.one 12 .pur (.one 13 .keep (.one 14 .pur (.one 15 .pur (.one 16 .stable (.one 17 .stable (.one 18 .keep (.one 19 .pur (.one 20 .pur (.one 21 .pur (.one 22 .pur (.one 23 .pur (.one 24 .pur (.one 25 .pur (.one 26 .stable (.one 27 .stable (.one 28 .keep (.one 29 .pur (.one 30 .pur (.one 31 .pur (.one 32 .pur (.one 33 .pur (.one 34 .pur (.one 35 .pur (.one 36 .stable (.one 37 .stable (.one 38 .keep (.one 39 .pur (.one 40 .pur (.one 41 .pur (.one 42 .pur (.one 43 .pur (.one 44 .pur (.one 45 .pur (.one 46 .pur (.one 47 .pur (.one 48 .keep (.one 49 .pur (.one 50 .pur (.one 51 .stable (.one 52 .stable (.one 53 .last (.one 54 .pur (.one 55 .pur .nil))))))))))))))))))))))))))))))))))))))))))))))))))))))))) .leaf))))))))))
def F_law21_agree (r_0 r_1 r_2 r_3 r_4 r_5 r_6 r_7 r_8 r_9 r_10 r_11 : Int) (r_12 : Bool) (r_13_a : OA) (r_13_l r_13_c : Nat) (b_a : OA) (b_l b_c : Nat) (size : Int) (w : World) (R : Value → WP) : Prop :=
 (kAlloc w #[(Iv r_0), (Iv r_1), (Iv r_2), (Iv r_3), (Iv r_4), (Iv r_5), (Iv r_6), (Iv r_7), (Iv r_8), (Iv r_9), (Iv r_10), (Iv r_11), (.bool r_12), (.slice r_13_a r_13_l r_13_c)] Ty_api_Receiver fun fk lt =>
 (∃ kn ko kp kq kr ks kt ku kv kw hv hw : Int, ∃ hx : Bool, ∃ b2 : OA, ∃ b4 b3 : Nat, cellsAt lt ⟨fk, 0, none⟩ 0 [(Iv kn), (Iv ko), (Iv kp), (Iv kq), (Iv kr), (Iv ks), (Iv kt), (Iv ku), (Iv kv), (Iv kw), (Iv hv), (Iv hw), (.bool hx), (.slice b2 b4 b3)] ∧
 (CP N_receiver_Receive #[(.agg #[Iv kn, Iv ko, Iv kp, Iv kq, Iv kr, Iv ks, Iv kt, Iv ku, Iv kv, Iv kw, Iv hv, Iv hw, .bool hx, .slice b2 b4 b3]), (.slice b_a b_l b_c)] lt fun l8 l9 =>
 ∃ fl ft fz f5 gb gh gn gt gz g5 b9 cf : Int, ∃ cl : Bool, ∃ t : OA, ∃ ag aa : Nat, ∃ ke : OA, ∃ kg kf : Nat, ∃ mf : Int, l8 = .returned (.tuple #[(.agg #[Iv fl, Iv ft, Iv fz, Iv f5, Iv gb, Iv gh, Iv gn, Iv gt, Iv gz, Iv g5, Iv b9, Iv cf, .bool cl, .slice t ag aa]), (.slice ke kg kf), (Iv mf)]) ∧
 (kAlloc l9 #[Iv (0 : Int), Iv (0 : Int), Iv (0 : Int), Iv (0 : Int), Iv (0 : Int), Iv (0 : Int), Iv (0 : Int), Iv (0 : Int), Iv (0 : Int), Iv (0 : Int), Iv (0 : Int), Iv (0 : Int), .bool false, .slice none 0 0] Ty_api_Receiver fun kx ma =>
 (sxStore ma ⟨kx, 0, none⟩ 0 [(Iv fl), (Iv ft), (Iv fz), (Iv f5), (Iv gb), (Iv gh), (Iv gn), (Iv gt), (Iv gz), (Iv g5), (Iv b9), (Iv cf), (.bool cl), (.slice t ag aa)] fun l6 =>
 (∃ hm hy h5 ie ip iz i8 jh jq jz c6 dg : Int, ∃ dr : Bool, ∃ am : OA, ∃ a6 ax : Nat, cellsAt l6 ⟨fk, 0, none⟩ 0 [(Iv hm), (Iv hy), (Iv h5), (Iv ie), (Iv ip), (Iv iz), (Iv i8), (Iv jh), (Iv jq), (Iv jz), (Iv c6), (Iv dg), (.bool dr), (.slice am a6 ax)] ∧
 (CP N_ref21_Receive #[(.agg #[Iv hm, Iv hy, Iv h5, Iv ie, Iv ip, Iv iz, Iv i8, Iv jh, Iv jq, Iv jz, Iv c6, Iv dg, .bool dr, .slice am a6 ax]), (.slice b_a b_l b_c)] l6 fun lb mb =>
 ∃ fm fu f0 f6 gc gi go gu g0 g6 ca cg : Int, ∃ cm : Bool, ∃ u : OA, ∃ ah ab : Nat, ∃ hb : OA, ∃ hh he : Nat, ∃ lk : Int, lb = .returned (.tuple #[(.agg #[Iv fm, Iv fu, Iv f0, Iv f6, Iv gc, Iv gi, Iv go, Iv gu, Iv g0, Iv g6, Iv ca, Iv cg, .bool cm, .slice u ah ab]), (.slice hb hh he), (Iv lk)]) ∧
 (kAlloc mb #[Iv (0 : Int), Iv (0 : Int), Iv (0 : Int), Iv (0 : Int), Iv (0 : Int), Iv (0 : Int), Iv (0 : Int), Iv (0 : Int), Iv (0 : Int), Iv (0 : Int), Iv (0 : Int), Iv (0 : Int), .bool false, .slice none 0 0] Ty_api_Receiver fun ky mc =>
 (sxStore mc ⟨ky, 0, none⟩ 0 [(Iv fm), (Iv fu), (Iv f0), (Iv f6), (Iv gc), (Iv gi), (Iv go), (Iv gu), (Iv g0), (Iv g6), (Iv ca), (Iv cg), (.bool cm), (.slice u ah ab)] fun l7 =>
 (∃ hn hz h6 ig iq i0 i9 ji jr j0 c7 dh : Int, ∃ ds : Bool, ∃ an : OA, ∃ a7 ay : Nat, cellsAt l7 ⟨fk, 0, none⟩ 0 [(Iv hn), (Iv hz), (Iv h6), (Iv ig), (Iv iq), (Iv i0), (Iv i9), (Iv ji), (Iv jr), (Iv j0), (Iv c7), (Iv dh), (.bool ds), (.slice an a7 ay)] ∧
 (CP N_receiver_Tick #[(.agg #[Iv hn, Iv hz, Iv h6, Iv ig, Iv iq, Iv i0, Iv i9, Iv ji, Iv jr, Iv j0, Iv c7, Iv dh, .bool ds, .slice an a7 ay])] l7 fun lc md =>
 ∃ fn fv f1 f7 gd gj gp gv g1 g7 cb ch : Int, ∃ cn : Bool, ∃ v : OA, ∃ ai ac : Nat, ∃ ll : Int, lc = .returned (.tuple #[(.agg #[Iv fn, Iv fv, Iv f1, Iv f7, Iv gd, Iv gj, Iv gp, Iv gv, Iv g1, Iv g7, Iv cb, Iv ch, .bool cn, .slice v ai ac]), (Iv ll)]) ∧
 (kAlloc md #[Iv (0 : Int), Iv (0 : Int), Iv (0 : Int), Iv (0 : Int), Iv (0 : Int), Iv (0 : Int), Iv (0 : Int), Iv (0 : Int), Iv (0 : Int), Iv (0 : Int), Iv (0 : Int), Iv (0 : Int), .bool false, .slice none 0 0] Ty_api_Receiver fun kz me =>
 (sxStore me ⟨kz, 0, none⟩ 0 [(Iv fn), (Iv fv), (Iv f1), (Iv f7), (Iv gd), (Iv gj), (Iv gp), (Iv gv), (Iv g1), (Iv g7), (Iv cb), (Iv ch), (.bool cn), (.slice v ai ac)] fun kh =>
 (∃ ho h0 h7 ih ir i1 ja jj js j1 c8 di : Int, ∃ dt : Bool, ∃ ao : OA, ∃ a8 az : Nat, cellsAt kh ⟨fk, 0, none⟩ 0 [(Iv ho), (Iv h0), (Iv h7), (Iv ih), (Iv ir), (Iv i1), (Iv ja), (Iv jj), (Iv js), (Iv j1), (Iv c8), (Iv di), (.bool dt), (.slice ao a8 az)] ∧
 (CP N_ref21_Tick #[(.agg #[Iv ho, Iv h0, Iv h7, Iv ih, Iv ir, Iv i1, Iv ja, Iv jj, Iv js, Iv j1, Iv c8, Iv di, .bool dt, .slice ao a8 az])] kh fun ld lu =>
 ∃ fo fw f2 f8 ge gk gq gw g2 g8 cc ci : Int, ∃ co : Bool, ∃ x : OA, ∃ aj ad : Nat, ∃ lm : Int, ld = .returned (.tuple #[(.agg #[Iv fo, Iv fw, Iv f2, Iv f8, Iv ge, Iv gk, Iv gq, Iv gw, Iv g2, Iv g8, Iv cc, Iv ci, .bool co, .slice x aj ad]), (Iv lm)]) ∧
 (kAlloc lu #[Iv (0 : Int), Iv (0 : Int), Iv (0 : Int), Iv (0 : Int), Iv (0 : Int), Iv (0 : Int), Iv (0 : Int), Iv (0 : Int), Iv (0 : Int), Iv (0 : Int), Iv (0 : Int), Iv (0 : Int), .bool false, .slice none 0 0] Ty_api_Receiver fun k0 lv =>
 (sxStore lv ⟨k0, 0, none⟩ 0 [(Iv fo), (Iv fw), (Iv f2), (Iv f8), (Iv ge), (Iv gk), (Iv gq), (Iv gw), (Iv g2), (Iv g8), (Iv cc), (Iv ci), (.bool co), (.slice x aj ad)] fun ki =>
 (∃ hp h1 h8 ii it i2 jb jk jt j2 c9 dj : Int, ∃ du : Bool, ∃ ap : OA, ∃ a9 a0 : Nat, cellsAt ki ⟨fk, 0, none⟩ 0 [(Iv hp), (Iv h1), (Iv h8), (Iv ii), (Iv it), (Iv i2), (Iv jb), (Iv jk), (Iv jt), (Iv j2), (Iv c9), (Iv dj), (.bool du), (.slice ap a9 a0)] ∧
 (CP N_receiver_Status #[(.agg #[Iv hp, Iv h1, Iv h8, Iv ii, Iv it, Iv i2, Iv jb, Iv jk, Iv jt, Iv j2, Iv c9, Iv dj, .bool du, .slice ap a9 a0])] ki fun le lw =>
 ∃ fp : Int, ∃ cr : OA, ∃ ct cs : Nat, ∃ ln : Int, le = .returned (.tuple #[(.agg #[Iv fp, .slice cr ct cs]), (Iv ln)]) ∧
 (kAlloc lw #[Iv (0 : Int), .slice none 0 0] Ty_api_Status fun k1 lx =>
 (sxStore lx ⟨k1, 0, none⟩ 0 [(Iv fp), (.slice cr ct cs)] fun kj =>
 (∃ hq h2 h9 ij iu i3 jc jl ju j3 da dk : Int, ∃ dv : Bool, ∃ aq : OA, ∃ ba a1 : Nat, cellsAt kj ⟨fk, 0, none⟩ 0 [(Iv hq), (Iv h2), (Iv h9), (Iv ij), (Iv iu), (Iv i3), (Iv jc), (Iv jl), (Iv ju), (Iv j3), (Iv da), (Iv dk), (.bool dv), (.slice aq ba a1)] ∧
 (CP N_ref21_Status #[(.agg #[Iv hq, Iv h2, Iv h9, Iv ij, Iv iu, Iv i3, Iv jc, Iv jl, Iv ju, Iv j3, Iv da, Iv dk, .bool dv, .slice aq ba a1])] kj fun lf ly =>
 ∃ fq : Int, ∃ bf : OA, ∃ bh bg : Nat, ∃ lo : Int, lf = .returned (.tuple #[(.agg #[Iv fq, .slice bf bh bg]), (Iv lo)]) ∧
 (kAlloc ly #[Iv (0 : Int), .slice none 0 0] Ty_api_Status fun k2 lz =>
 (sxStore lz ⟨k2, 0, none⟩ 0 [(Iv fq), (.slice bf bh bg)] fun kk =>
 (∃ hr h3 ia ik iv i4 jd jm jv j4 db dl : Int, ∃ dw : Bool, ∃ ar : OA, ∃ bb a2 : Nat, cellsAt kk ⟨fk, 0, none⟩ 0 [(Iv hr), (Iv h3), (Iv ia), (Iv ik), (Iv iv), (Iv i4), (Iv jd), (Iv jm), (Iv jv), (Iv j4), (Iv db), (Iv dl), (.bool dw), (.slice ar bb a2)] ∧
 (CP N_receiver_Report #[(.agg #[Iv hr, Iv h3, Iv ia, Iv ik, Iv iv, Iv i4, Iv jd, Iv jm, Iv jv, Iv j4, Iv db, Iv dl, .bool dw, .slice ar bb a2]), (Iv size)] kk fun lg l0 =>
 ∃ fr fx f3 f9 gf gl gr gx g3 g9 cd cj : Int, ∃ cp : Bool, ∃ y : OA, ∃ ak ae : Nat, ∃ hc : OA, ∃ hi hf : Nat, ∃ lp : Int, lg = .returned (.tuple #[(.agg #[Iv fr, Iv fx, Iv f3, Iv f9, Iv gf, Iv gl, Iv gr, Iv gx, Iv g3, Iv g9, Iv cd, Iv cj, .bool cp, .slice y ak ae]), (.slice hc hi hf), (Iv lp)]) ∧
 (kAlloc l0 #[Iv (0 : Int), Iv (0 : Int), Iv (0 : Int), Iv (0 : Int), Iv (0 : Int), Iv (0 : Int), Iv (0 : Int), Iv (0 : Int), Iv (0 : Int), Iv (0 : Int), Iv (0 : Int), Iv (0 : Int), .bool false, .slice none 0 0] Ty_api_Receiver fun k3 l1 =>
 (sxStore l1 ⟨k3, 0, none⟩ 0 [(Iv fr), (Iv fx), (Iv f3), (Iv f9), (Iv gf), (Iv gl), (Iv gr), (Iv gx), (Iv g3), (Iv g9), (Iv cd), (Iv cj), (.bool cp), (.slice y ak ae)] fun kl =>
 (∃ hs h4 ib il iw i5 je jn jw j5 dc dm : Int, ∃ dx : Bool, ∃ au : OA, ∃ bc a3 : Nat, cellsAt kl ⟨fk, 0, none⟩ 0 [(Iv hs), (Iv h4), (Iv ib), (Iv il), (Iv iw), (Iv i5), (Iv je), (Iv jn), (Iv jw), (Iv j5), (Iv dc), (Iv dm), (.bool dx), (.slice au bc a3)] ∧
 (CP N_ref21_Report #[(.agg #[Iv hs, Iv h4, Iv ib, Iv il, Iv iw, Iv i5, Iv je, Iv jn, Iv jw, Iv j5, Iv dc, Iv dm, .bool dx, .slice au bc a3]), (Iv size)] kl fun lh l2 =>
 ∃ fs fy f4 ga gg gm gs gy g4 ha ce ck : Int, ∃ cq : Bool, ∃ z : OA, ∃ al af : Nat, ∃ hd : OA, ∃ hj hg : Nat, ∃ lq : Int, lh = .returned (.tuple #[(.agg #[Iv fs, Iv fy, Iv f4, Iv ga, Iv gg, Iv gm, Iv gs, Iv gy, Iv g4, Iv ha, Iv ce, Iv ck, .bool cq, .slice z al af]), (.slice hd hj hg), (Iv lq)]) ∧
 (kAlloc l2 #[Iv (0 : Int), Iv (0 : Int), Iv (0 : Int), Iv (0 : Int), Iv (0 : Int), Iv (0 : Int), Iv (0 : Int), Iv (0 : Int), Iv (0 : Int), Iv (0 : Int), Iv (0 : Int), Iv (0 : Int), .bool false, .slice none 0 0] Ty_api_Receiver fun k4 l3 =>
 (sxStore l3 ⟨k4, 0, none⟩ 0 [(Iv fs), (Iv fy), (Iv f4), (Iv ga), (Iv gg), (Iv gm), (Iv gs), (Iv gy), (Iv g4), (Iv ha), (Iv ce), (Iv ck), (.bool cq), (.slice z al af)] fun l4 =>
 (kDrew l4 fun a =>
 (∃ b8 : Nat → Prop,
 (∃ ht df ic im ix i6 jf jo jx j6 dd dn : Int, ∃ dy : Bool, ∃ av : OA, ∃ bd a4 : Nat, cellsAt a ⟨fk, 0, none⟩ 0 [(Iv ht), (Iv df), (Iv ic), (Iv im), (Iv ix), (Iv i6), (Iv jf), (Iv jo), (Iv jx), (Iv j6), (Iv dd), (Iv dn), (.bool dy), (.slice av bd a4)] ∧
 (b8 fk ∧
 (∃ hu dp id io iy i7 jg jp jy j7 de bo : Int, ∃ dz : Bool, ∃ aw : OA, ∃ be a5 : Nat, cellsAt a ⟨fk, 0, none⟩ 0 [(Iv hu), (Iv dp), (Iv id), (Iv io), (Iv iy), (Iv i7), (Iv jg), (Iv jp), (Iv jy), (Iv j7), (Iv de), (Iv bo), (.bool dz), (.slice aw be a5)] ∧
 (CP N_receiver_Valid #[(.agg #[Iv ht, Iv df, Iv ic, Iv im, Iv ix, Iv i6, Iv jf, Iv jo, Iv jx, Iv j6, Iv dd, Iv dn, .bool dy, .slice av bd a4])] a fun li km =>
 ∃ lr : Bool, li = .returned (.bool lr) ∧
 (KeepsB b8 a km ∧ (CP N_ref21_Valid #[(.agg #[Iv hu, Iv dp, Iv id, Iv io, Iv iy, Iv i7, Iv jg, Iv jp, Iv jy, Iv j7, Iv de, Iv bo, .bool dz, .slice aw be a5])] km fun lj cu =>
 ∃ ls : Bool, lj = .returned (.bool ls) ∧
 (KeepsB b8 a cu ∧ (bsplit (lr == ls)
 ((bsplit (decide (mf = lk))
 ((CP N_ref01_Same #[(.slice ke kg kf), (.slice hb hh he)] cu fun k5 hk =>
 ∃ j8 : Bool, k5 = .returned (.bool j8) ∧
 (KeepsB b8 a hk ∧ (bsplit j8
 ((b8 kx ∧
 (∃ cy dq d8 ee ek eq ew e2 e8 fe bi bp : Int, ∃ bv : Bool, ∃ b : OA, ∃ n h : Nat, cellsAt a ⟨kx, 0, none⟩ 0 [(Iv cy), (Iv dq), (Iv d8), (Iv ee), (Iv ek), (Iv eq), (Iv ew), (Iv e2), (Iv e8), (Iv fe), (Iv bi), (Iv bp), (.bool bv), (.slice b n h)] ∧
 (b8 ky ∧
 (∃ cz d0 d9 ef el er ex e3 e9 ff bj bq : Int, ∃ bw : Bool, ∃ c : OA, ∃ o i : Nat, cellsAt a ⟨ky, 0, none⟩ 0 [(Iv cz), (Iv d0), (Iv d9), (Iv ef), (Iv el), (Iv er), (Iv ex), (Iv e3), (Iv e9), (Iv ff), (Iv bj), (Iv bq), (.bool bw), (.slice c o i)] ∧
 (CP N_ref21_Same #[(.agg #[Iv cy, Iv dq, Iv d8, Iv ee, Iv ek, Iv eq, Iv ew, Iv e2, Iv e8, Iv fe, Iv bi, Iv bp, .bool bv, .slice b n h]), (.agg #[Iv cz, Iv d0, Iv d9, Iv ef, Iv el, Iv er, Iv ex, Iv e3, Iv e9, Iv ff, Iv bj, Iv bq, .bool bw, .slice c o i])] hk fun k6 cv =>
 ∃ j9 : Bool, k6 = .returned (.bool j9) ∧
 (KeepsB b8 a cv ∧ (bsplit j9
 ((bsplit (decide (ll = lm))
 ((b8 kz ∧
 (∃ c0 d1 ea eg em es ey e4 fa fg bk br : Int, ∃ bx : Bool, ∃ d : OA, ∃ p j : Nat, cellsAt a ⟨kz, 0, none⟩ 0 [(Iv c0), (Iv d1), (Iv ea), (Iv eg), (Iv em), (Iv es), (Iv ey), (Iv e4), (Iv fa), (Iv fg), (Iv bk), (Iv br), (.bool bx), (.slice d p j)] ∧
 (b8 k0 ∧
 (∃ c1 d2 eb eh en et ez e5 fb fh bl bs : Int, ∃ bz : Bool, ∃ e : OA, ∃ q k : Nat, cellsAt a ⟨k0, 0, none⟩ 0 [(Iv c1), (Iv d2), (Iv eb), (Iv eh), (Iv en), (Iv et), (Iv ez), (Iv e5), (Iv fb), (Iv fh), (Iv bl), (Iv bs), (.bool bz), (.slice e q k)] ∧
 (CP N_ref21_Same #[(.agg #[Iv c0, Iv d1, Iv ea, Iv eg, Iv em, Iv es, Iv ey, Iv e4, Iv fa, Iv fg, Iv bk, Iv br, .bool bx, .slice d p j]), (.agg #[Iv c1, Iv d2, Iv eb, Iv eh, Iv en, Iv et, Iv ez, Iv e5, Iv fb, Iv fh, Iv bl, Iv bs, .bool bz, .slice e q k])] cv fun k7 cw =>
 ∃ ka : Bool, k7 = .returned (.bool ka) ∧
 (KeepsB b8 a cw ∧ (bsplit ka
 ((bsplit (decide (ln = lo))
 ((b8 k1 ∧
 (∃ c2 : Int, ∃ d5 : OA, ∃ d7 d6 : Nat, cellsAt a ⟨k1, 0, none⟩ 0 [(Iv c2), (.slice d5 d7 d6)] ∧
 (b8 k2 ∧
 (∃ c3 : Int, ∃ b5 : OA, ∃ b7 b6 : Nat, cellsAt a ⟨k2, 0, none⟩ 0 [(Iv c3), (.slice b5 b7 b6)] ∧
 (CP N_ref19_Same #[(.agg #[Iv c2, .slice d5 d7 d6]), (.agg #[Iv c3, .slice b5 b7 b6])] cw fun k8 cx =>
 ∃ kb : Bool, k8 = .returned (.bool kb) ∧
 (KeepsB b8 a cx ∧ (bsplit kb
 ((bsplit (decide (lp = lq))
 ((CP N_ref01_Same #[(.slice hc hi hf), (.slice hd hj hg)] cx fun k9 hl =>
 ∃ kc : Bool, k9 = .returned (.bool kc) ∧
 (KeepsB b8 a hl ∧ (bsplit kc
 ((b8 k3 ∧
 (∃ c4 d3 ec ei eo eu e0 e6 fc fi bm bt : Int, ∃ b0 : Bool, ∃ f : OA, ∃ r l : Nat, cellsAt a ⟨k3, 0, none⟩ 0 [(Iv c4), (Iv d3), (Iv ec), (Iv ei), (Iv eo), (Iv eu), (Iv e0), (Iv e6), (Iv fc), (Iv fi), (Iv bm), (Iv bt), (.bool b0), (.slice f r l)] ∧
 (b8 k4 ∧
 (∃ c5 d4 ed ej ep ev e1 e7 fd fj bn bu : Int, ∃ b1 : Bool, ∃ g : OA, ∃ s m : Nat, cellsAt a ⟨k4, 0, none⟩ 0 [(Iv c5), (Iv d4), (Iv ed), (Iv ej), (Iv ep), (Iv ev), (Iv e1), (Iv e7), (Iv fd), (Iv fj), (Iv bn), (Iv bu), (.bool b1), (.slice g s m)] ∧
 (CP N_ref21_Same #[(.agg #[Iv c4, Iv d3, Iv ec, Iv ei, Iv eo, Iv eu, Iv e0, Iv e6, Iv fc, Iv fi, Iv bm, Iv bt, .bool b0, .slice f r l]), (.agg #[Iv c5, Iv d4, Iv ed, Iv ej, Iv ep, Iv ev, Iv e1, Iv e7, Iv fd, Iv fj, Iv bn, Iv bu, .bool b1, .slice g s m])] hl fun la l5 =>
 ∃ kd : Bool, la = .returned (.bool kd) ∧
 R (.bool kd) l5))))))
 (R (.bool false) hl)))))
 (R (.bool false) cx)))
 (R (.bool false) cx)))))))))
 (R (.bool false) cw)))
 (R (.bool false) cw)))))))))
 (R (.bool false) cv)))
 (R (.bool false) cv)))))))))
 (R (.bool false) hk)))))
 (R (.bool false) cu)))
 (R (.bool false) cu))))))))))))))))))))))))))))))))))))))))))))
theorem F_law21_agree_ok {R : EP} (r_0 r_1 r_2 r_3 r_4 r_5 r_6 r_7 r_8 r_9 r_10 r_11 : Int) (r_12 : Bool) (r_13_a : OA) (r_13_l r_13_c : Nat) (b_a : OA) (b_l b_c : Nat) (size : Int) (w : World) (h : F_law21_agree r_0 r_1 r_2 r_3 r_4 r_5 r_6 r_7 r_8 r_9 r_10 r_11 r_12 r_13_a r_13_l r_13_c b_a b_l b_c size w fun v w' => R (.returned v) w') : CP N_law21_agree #[(.agg #[Iv r_0, Iv r_1, Iv r_2, Iv r_3, Iv r_4, Iv r_5, Iv r_6, Iv r_7, Iv r_8, Iv r_9, Iv r_10, Iv r_11, .bool r_12, .slice r_13_a r_13_l r_13_c]), (.slice b_a b_l b_c), (Iv size)] w R :=
 calls_of (k := TTk) (h := h_law21_agree) (f := 10) follows_ok Tryz.func10 (Eq.mpr (by kernel_rfl) h)

def h_made_Light : H := (.seq .reg (.seq .reg .leaf))
def F_made_Light (_ : OA) (t_l _ : Nat) (w : World) (R : Value → WP) : Prop :=
 (kLet (decide ((t_l : Int) ≤ (400 : Int))) fun a =>
 R (.bool a) w)
theorem F_made_Light_ok {R : EP} (t_a : OA) (t_l t_c : Nat) (w : World) (h : F_made_Light t_a t_l t_c w fun v w' => R (.returned v) w') : CP N_made_Light #[(.slice t_a t_l t_c)] w R :=
 calls_of (k := TTk) (h := h_made_Light) (f := 11) follows_ok Tryz.func11 (Eq.mpr (by kernel_rfl) h)

def h_made_Roll : H := (.seq .reg (.seq .reg .leaf))
def F_made_Roll (t_a : OA) (t_l t_c : Nat) (w : World) (R : Value → WP) : Prop :=
 (kAlloc w #[(.slice t_a t_l t_c), (Iv (0 : Int))] Ty_radiolinkmade_Dice fun b a =>
 R (.pointer (some ⟨b, 0, none⟩)) a)
theorem F_made_Roll_ok {R : EP} (t_a : OA) (t_l t_c : Nat) (w : World) (h : F_made_Roll t_a t_l t_c w fun v w' => R (.returned v) w') : CP N_made_Roll #[(.slice t_a t_l t_c)] w R :=
 calls_of (k := TTk) (h := h_made_Roll) (f := 12) follows_ok Tryz.func12 (Eq.mpr (by kernel_rfl) h)

def h_law21_random : H := (.seq .reg (.seq .reg (.seq .reg (.seq .reg (.seq (.seq .reg (.block (.loop [(5, .p (.int .i64))] [5, 6, 7, 8, 9, 10, 33, 34, 35, 36, 37, 38, 39, 40, 41, 42, 43, 44, 45, 46, 47, 48, 49, 50, 51, 52, 53, 54, 55, 56, 57, 58, 59, 60, 61, 62, 63, 64, 65, 66, 67, 68, 69, 70, 71, 72, 73, 74, 75, 76] (.seq (.seq .reg (.cond .leaf .leaf)) (.cut [] [6, 7, 8, 9, 10, 37, 38, 39, 40, 41, 42, 43, 44, 45, 46, 47, 48, 49, 50, 51, 52, 53, 54, 55, 56, 57, 58, 59, 60, 61, 62, 63, 64, 65, 66, 67, 68, 69, 70, 71, 72, 73, 74, 75, 76] (.block (.seq .reg (.block (.seq .reg (.cond .reg (.seq .reg (.cond (.seq (.draw .blk (.one 0 .stable (.one 1 .pur (.alt 2 (.one 3 .pur (.alt 4 (.one 5 .pur (.one 6 .pur (.one 7 .pur (.one 8 .pur (.one 9 .keep (.one 10 .last (.one 11 .pur (.one 12 .pur .nil)))))))) (.alt 9 (.one 4 .keep (.one 5 .pur (.one 6 .pur (.one 7 .pur (.one 8 .pur (.one 10 .last (.one 11 .pur (.one 12 .pur .nil)))))))) .endAlt))) (.alt 9 (.one 2 .keep (.one 3 .pur (.one 4 .keep (.one 5 .pur (.one 6 .pur (.one 7 .pur (.one 8 .pur (.one 10 .last (.one 11 .pur (.one 12 .pur .nil)))))))))) .endAlt))))) (.seq .reg (.cond .reg .leaf))) (.seq (.draw .blk (.one 0 .pur (.one 1 .pur (.one 2 .stable (.one 3 .pur (.one 4 .pre (.one 5 .keep (.one 6 .last (.one 7 .pur (.one 8 .pur (.one 9 .pur (.one 10 .pur (.one 11 .pur .nil))))))))))))) .reg)))))))) .reg))))) (.seq .reg .leaf))))))
def F_law21_random (d_b d_o : Nat) (w : World) (R : Value → WP) : Prop :=
 (kAlloc w #[Iv (0 : Int), Iv (0 : Int), Iv (0 : Int), Iv (0 : Int), Iv (0 : Int), Iv (0 : Int), Iv (0 : Int), Iv (0 : Int), Iv (0 : Int), Iv (0 : Int), Iv (0 : Int), Iv (0 : Int), .bool false, .slice none 0 0] Ty_api_Receiver fun jg i2 =>
 (CP N_made_Dice_Link #[(.pointer (some ⟨d_b, d_o, none⟩))] i2 fun i0 i3 =>
 ∃ gk gl gm gn go gp : Int, i0 = .returned (.agg #[Iv gk, Iv gl, Iv gm, Iv gn, Iv go, Iv gp]) ∧
 (CP N_ref21_New #[(.agg #[Iv gk, Iv gl, Iv gm, Iv gn, Iv go, Iv gp])] i3 fun h0 i4 =>
 ∃ cj cs c1 c9 dh dp gq gr gs gt cr bh : Int, ∃ ct : Bool, ∃ a5 : OA, ∃ a7 a6 : Nat, ∃ jh : Int, h0 = .returned (.tuple #[(.agg #[Iv cj, Iv cs, Iv c1, Iv c9, Iv dh, Iv dp, Iv gq, Iv gr, Iv gs, Iv gt, Iv cr, Iv bh, .bool ct, .slice a5 a7 a6]), (Iv jh)]) ∧
 (kAlloc i4 #[Iv (0 : Int), Iv (0 : Int), Iv (0 : Int), Iv (0 : Int), Iv (0 : Int), Iv (0 : Int), Iv (0 : Int), Iv (0 : Int), Iv (0 : Int), Iv (0 : Int), Iv (0 : Int), Iv (0 : Int), .bool false, .slice none 0 0] Ty_api_Receiver fun a i5 =>
 (sxStore i5 ⟨a, 0, none⟩ 0 [(Iv cj), (Iv cs), (Iv c1), (Iv c9), (Iv dh), (Iv dp), (Iv gq), (Iv gr), (Iv gs), (Iv gt), (Iv cr), (Iv bh), (.bool ct), (.slice a5 a7 a6)] fun iw =>
 (kLd iw ⟨a, 0, none⟩ .i64 fun ji =>
 (kW .u64 (ji) fun ix =>
 (0 ≤ ix ∧ (kW .i64 ((1 : Int) * 2 ^ (min ix.toNat (IntKind.bits .i64))) fun i9 =>
 (CP N_made_Dice_Next #[(.pointer (some ⟨d_b, d_o, none⟩)), (Iv i9)] iw fun h1 i6 =>
 ∃ h9 : Int, h1 = .returned (Iv h9) ∧
 (kSet i6 ⟨a, 6, none⟩ (Iv h9) fun hu =>
 (kLd hu ⟨a, 6, none⟩ .i64 fun ja =>
 (kLd hu ⟨a, 6, none⟩ .i64 fun jb =>
 (kSet hu ⟨a, 7, none⟩ (Iv ja) fun i7 =>
 (kSet i7 ⟨a, 8, none⟩ (Iv jb) fun i8 =>
 (CP N_made_Dice_Next #[(.pointer (some ⟨d_b, d_o, none⟩)), (Iv (40 : Int))] i8 fun h2 im =>
 ∃ ic : Int, h2 = .returned (Iv ic) ∧
 (∃ hv : Int → Nat × (WP), (hv ic).2 im ∧
 (∀ (_ : Env) (iz : Int) (bx : World), (hv iz).2 bx →
 (bsplit (decide (iz > (0 : Int)))
 ((∃ gi : WP,
 (∀ (_ : Env)  (g3 : World), gi g3 →
 (kW .i64 (iz - (1 : Int)) fun g5 =>
 ((hv g5).2 g3 ∧ (hv g5).1 < (hv iz).1))) ∧
 (CP N_made_Dice_Next #[(.pointer (some ⟨d_b, d_o, none⟩)), (Iv (5 : Int))] bx fun h3 bz =>
 ∃ hk : Int, h3 = .returned (Iv hk) ∧
 (kLet (decide (hk = (0 : Int))) fun jc =>
 (bsplit jc
 ((∃ g6 g7 g8 g9 ha hb hc hd he hf ex ey : Int, ∃ ez : Bool, ∃ a8 : OA, ∃ ba a9 : Nat, cellsAt bz ⟨a, 0, none⟩ 0 [(Iv g6), (Iv g7), (Iv g8), (Iv g9), (Iv ha), (Iv hb), (Iv hc), (Iv hd), (Iv he), (Iv hf), (Iv ex), (Iv ey), (.bool ez), (.slice a8 ba a9)] ∧
 (CP N_ref21_Tick #[(.agg #[Iv g6, Iv g7, Iv g8, Iv g9, Iv ha, Iv hb, Iv hc, Iv hd, Iv he, Iv hf, Iv ex, Iv ey, .bool ez, .slice a8 ba a9])] bz fun h4 io =>
 ∃ ck cu c2 da di dq dw d2 d8 ee bb bi : Int, ∃ bo : Bool, ∃ i : OA, ∃ u o : Nat, ∃ i1 : Int, h4 = .returned (.tuple #[(.agg #[Iv ck, Iv cu, Iv c2, Iv da, Iv di, Iv dq, Iv dw, Iv d2, Iv d8, Iv ee, Iv bb, Iv bi, .bool bo, .slice i u o]), (Iv i1)]) ∧
 (sxStore io ⟨a, 0, none⟩ 0 [(Iv ck), (Iv cu), (Iv c2), (Iv da), (Iv di), (Iv dq), (Iv dw), (Iv d2), (Iv d8), (Iv ee), (Iv bb), (Iv bi), (.bool bo), (.slice i u o)] fun ip =>
 gi ip))))
 ((kLet (decide (hk = (1 : Int))) fun jd =>
 (bsplit jd
 ((kDrew bz fun b =>
 (∃ gj : Nat → Prop,
 (gj a ∧
 (∃ av aw ax ay az a0 a1 a2 a3 a4 f g : Int, ∃ h : Bool, ∃ c : OA, ∃ e d : Nat, cellsAt b ⟨a, 0, none⟩ 0 [(Iv av), (Iv aw), (Iv ax), (Iv ay), (Iv az), (Iv a0), (Iv a1), (Iv a2), (Iv a3), (Iv a4), (Iv f), (Iv g), (.bool h), (.slice c e d)] ∧
 ((CP N_made_Dice_Next #[(.pointer (some ⟨d_b, d_o, none⟩)), (Iv (30 : Int))] b fun h7 eo =>
 ∃ ig : Int, h7 = .returned (Iv ig) ∧
 (KeepsB gj b eo ∧ (kW .i64 ((3 : Int) + ig) fun iy =>
 ((CP N_ref21_Report #[(.agg #[Iv av, Iv aw, Iv ax, Iv ay, Iv az, Iv a0, Iv a1, Iv a2, Iv a3, Iv a4, Iv f, Iv g, .bool h, .slice c e d]), (Iv iy)] eo fun hg gz =>
 ∃ cn cx c5 dd dl dt dz d5 eb eh be bl : Int, ∃ br : Bool, ∃ l : OA, ∃ y r : Nat, ∃ hm : OA, ∃ hs hp : Nat, ∃ ii : Int, hg = .returned (.tuple #[(.agg #[Iv cn, Iv cx, Iv c5, Iv dd, Iv dl, Iv dt, Iv dz, Iv d5, Iv eb, Iv eh, Iv be, Iv bl, .bool br, .slice l y r]), (.slice hm hs hp), (Iv ii)]) ∧
 (KeepsB gj b gz ∧ (kAlloc gz #[Iv (0 : Int), Iv (0 : Int), Iv (0 : Int), Iv (0 : Int), Iv (0 : Int), Iv (0 : Int), Iv (0 : Int), Iv (0 : Int), Iv (0 : Int), Iv (0 : Int), Iv (0 : Int), Iv (0 : Int), .bool false, .slice none 0 0] Ty_api_Receiver fun hz g0 =>
 (KeepsB gj b g0 ∧ (sxStore g0 ⟨hz, 0, none⟩ 0 [(Iv cn), (Iv cx), (Iv c5), (Iv dd), (Iv dl), (Iv dt), (Iv dz), (Iv d5), (Iv eb), (Iv eh), (Iv be), (Iv bl), (.bool br), (.slice l y r)] fun eq =>
 (bsplit (decide (ii = (0 : Int)))
 ((∃ et e2 e8 fe fk fq fw f2 f8 ge b3 b9 : Int, ∃ cf : Bool, ∃ ad : OA, ∃ ap aj : Nat, cellsAt eq ⟨hz, 0, none⟩ 0 [(Iv et), (Iv e2), (Iv e8), (Iv fe), (Iv fk), (Iv fq), (Iv fw), (Iv f2), (Iv f8), (Iv ge), (Iv b3), (Iv b9), (.bool cf), (.slice ad ap aj)] ∧
 (sxStore eq ⟨a, 0, none⟩ 0 [(Iv et), (Iv e2), (Iv e8), (Iv fe), (Iv fk), (Iv fq), (Iv fw), (Iv f2), (Iv f8), (Iv ge), (Iv b3), (Iv b9), (.bool cf), (.slice ad ap aj)] fun it =>
 gi it)))
 (gi eq))))))) ∧
 ((kAlloc eo #[Iv (0 : Int), Iv (0 : Int), Iv (0 : Int), Iv (0 : Int), Iv (0 : Int), Iv (0 : Int), Iv (0 : Int), Iv (0 : Int), Iv (0 : Int), Iv (0 : Int), Iv (0 : Int), Iv (0 : Int), .bool false, .slice none 0 0] Ty_api_Receiver fun hy gx =>
 (KeepsB gj b gx ∧ (CP N_ref21_Report #[(.agg #[Iv av, Iv aw, Iv ax, Iv ay, Iv az, Iv a0, Iv a1, Iv a2, Iv a3, Iv a4, Iv f, Iv g, .bool h, .slice c e d]), (Iv iy)] gx fun h8 gy =>
 ∃ cm cw c4 dc dk ds dy d4 ea eg bd bk : Int, ∃ bq : Bool, ∃ k : OA, ∃ x q : Nat, ∃ hl : OA, ∃ hr ho : Nat, ∃ ih : Int, h8 = .returned (.tuple #[(.agg #[Iv cm, Iv cw, Iv c4, Iv dc, Iv dk, Iv ds, Iv dy, Iv d4, Iv ea, Iv eg, Iv bd, Iv bk, .bool bq, .slice k x q]), (.slice hl hr ho), (Iv ih)]) ∧
 (KeepsB gj b gy ∧ (sxStore gy ⟨hy, 0, none⟩ 0 [(Iv cm), (Iv cw), (Iv c4), (Iv dc), (Iv dk), (Iv ds), (Iv dy), (Iv d4), (Iv ea), (Iv eg), (Iv bd), (Iv bk), (.bool bq), (.slice k x q)] fun ep =>
 (bsplit (decide (ih = (0 : Int)))
 ((∃ es e1 e7 fd fj fp fv f1 f7 gd b2 b8 : Int, ∃ ce : Bool, ∃ ac : OA, ∃ ao ai : Nat, cellsAt ep ⟨hy, 0, none⟩ 0 [(Iv es), (Iv e1), (Iv e7), (Iv fd), (Iv fj), (Iv fp), (Iv fv), (Iv f1), (Iv f7), (Iv gd), (Iv b2), (Iv b8), (.bool ce), (.slice ac ao ai)] ∧
 (sxStore ep ⟨a, 0, none⟩ 0 [(Iv es), (Iv e1), (Iv e7), (Iv fd), (Iv fj), (Iv fp), (Iv fv), (Iv f1), (Iv f7), (Iv gd), (Iv b2), (Iv b8), (.bool ce), (.slice ac ao ai)] fun ir =>
 gi ir)))
 (gi ep))))))) ∧
 True))))) ∧
 ((kAlloc b #[Iv (0 : Int), Iv (0 : Int), Iv (0 : Int), Iv (0 : Int), Iv (0 : Int), Iv (0 : Int), Iv (0 : Int), Iv (0 : Int), Iv (0 : Int), Iv (0 : Int), Iv (0 : Int), Iv (0 : Int), .bool false, .slice none 0 0] Ty_api_Receiver fun hx gu =>
 (KeepsB gj b gu ∧ (CP N_made_Dice_Next #[(.pointer (some ⟨d_b, d_o, none⟩)), (Iv (30 : Int))] gu fun h5 gv =>
 ∃ id : Int, h5 = .returned (Iv id) ∧
 (KeepsB gj b gv ∧ (kW .i64 ((3 : Int) + id) fun je =>
 (CP N_ref21_Report #[(.agg #[Iv av, Iv aw, Iv ax, Iv ay, Iv az, Iv a0, Iv a1, Iv a2, Iv a3, Iv a4, Iv f, Iv g, .bool h, .slice c e d]), (Iv je)] gv fun h6 gw =>
 ∃ cl cv c3 db dj dr dx d3 d9 ef bc bj : Int, ∃ bp : Bool, ∃ j : OA, ∃ v p : Nat, ∃ ij : OA, ∃ il ik : Nat, ∃ ie : Int, h6 = .returned (.tuple #[(.agg #[Iv cl, Iv cv, Iv c3, Iv db, Iv dj, Iv dr, Iv dx, Iv d3, Iv d9, Iv ef, Iv bc, Iv bj, .bool bp, .slice j v p]), (.slice ij il ik), (Iv ie)]) ∧
 (KeepsB gj b gw ∧ (sxStore gw ⟨hx, 0, none⟩ 0 [(Iv cl), (Iv cv), (Iv c3), (Iv db), (Iv dj), (Iv dr), (Iv dx), (Iv d3), (Iv d9), (Iv ef), (Iv bc), (Iv bj), (.bool bp), (.slice j v p)] fun en =>
 (bsplit (decide (ie = (0 : Int)))
 ((∃ er e0 e6 fc fi fo fu f0 f6 gc b1 b7 : Int, ∃ cd : Bool, ∃ ab : OA, ∃ an ah : Nat, cellsAt en ⟨hx, 0, none⟩ 0 [(Iv er), (Iv e0), (Iv e6), (Iv fc), (Iv fi), (Iv fo), (Iv fu), (Iv f0), (Iv f6), (Iv gc), (Iv b1), (Iv b7), (.bool cd), (.slice ab an ah)] ∧
 (sxStore en ⟨a, 0, none⟩ 0 [(Iv er), (Iv e0), (Iv e6), (Iv fc), (Iv fi), (Iv fo), (Iv fu), (Iv f0), (Iv f6), (Iv gc), (Iv b1), (Iv b7), (.bool cd), (.slice ab an ah)] fun iq =>
 gi iq)))
 (gi en)))))))))) ∧
 True)))))))
 ((kDrew bz fun b0 =>
 (∃ hw : Nat → Prop,
 (hw a ∧
 (kLd b0 ⟨a, 0, none⟩ .i64 fun jf =>
 (∃ eu e3 e9 ff fl fr fx f3 f9 gf b4 ca : Int, ∃ cg : Bool, ∃ ae : OA, ∃ aq ak : Nat, cellsAt b0 ⟨a, 0, none⟩ 0 [(Iv eu), (Iv e3), (Iv e9), (Iv ff), (Iv fl), (Iv fr), (Iv fx), (Iv f3), (Iv f9), (Iv gf), (Iv b4), (Iv ca), (.bool cg), (.slice ae aq ak)] ∧
 (CP N_law21_piece #[(.pointer (some ⟨d_b, d_o, none⟩)), (.agg #[Iv eu, Iv e3, Iv e9, Iv ff, Iv fl, Iv fr, Iv fx, Iv f3, Iv f9, Iv gf, Iv b4, Iv ca, .bool cg, .slice ae aq ak])] b0 fun hh g1 =>
 ∃ co cy c6 de : Int, ∃ bu : OA, ∃ bw bv : Nat, hh = .returned (.agg #[Iv co, Iv cy, Iv c6, Iv de, .slice bu bw bv]) ∧
 (KeepsB hw b0 g1 ∧ (CP N_ref18_Encode #[(Iv jf), (.agg #[Iv co, Iv cy, Iv c6, Iv de, .slice bu bw bv])] g1 fun hi g2 =>
 ∃ ek : OA, ∃ em el : Nat, ∃ ia : Int, hi = .returned (.tuple #[(.slice ek em el), (Iv ia)]) ∧
 (∃ ev e4 fa fg fm fs fy f4 ga gg b5 cb : Int, ∃ ch : Bool, ∃ af : OA, ∃ ar al : Nat, cellsAt g2 ⟨a, 0, none⟩ 0 [(Iv ev), (Iv e4), (Iv fa), (Iv fg), (Iv fm), (Iv fs), (Iv fy), (Iv f4), (Iv ga), (Iv gg), (Iv b5), (Iv cb), (.bool ch), (.slice af ar al)] ∧
 (CP N_ref21_Receive #[(.agg #[Iv ev, Iv e4, Iv fa, Iv fg, Iv fm, Iv fs, Iv fy, Iv f4, Iv ga, Iv gg, Iv b5, Iv cb, .bool ch, .slice af ar al]), (.slice ek em el)] g2 fun hj iu =>
 ∃ cp cz c7 df dm du d0 d6 ec ei bf bm : Int, ∃ bs : Bool, ∃ m : OA, ∃ z s : Nat, ∃ hn : OA, ∃ ht hq : Nat, ∃ ib : Int, hj = .returned (.tuple #[(.agg #[Iv cp, Iv cz, Iv c7, Iv df, Iv dm, Iv du, Iv d0, Iv d6, Iv ec, Iv ei, Iv bf, Iv bm, .bool bs, .slice m z s]), (.slice hn ht hq), (Iv ib)]) ∧
 (sxStore iu ⟨a, 0, none⟩ 0 [(Iv cp), (Iv cz), (Iv c7), (Iv df), (Iv dm), (Iv du), (Iv d0), (Iv d6), (Iv ec), (Iv ei), (Iv bf), (Iv bm), (.bool bs), (.slice m z s)] fun iv =>
 gi iv))))))))))))))))))))
 ((∃ ew e5 fb fh fn ft fz f5 gb gh b6 cc : Int, ∃ ci : Bool, ∃ ag : OA, ∃ au am : Nat, cellsAt bx ⟨a, 0, none⟩ 0 [(Iv ew), (Iv e5), (Iv fb), (Iv fh), (Iv fn), (Iv ft), (Iv fz), (Iv f5), (Iv gb), (Iv gh), (Iv b6), (Iv cc), (.bool ci), (.slice ag au am)] ∧
 (sxStore bx ⟨jg, 0, none⟩ 0 [(Iv ew), (Iv e5), (Iv fb), (Iv fh), (Iv fn), (Iv ft), (Iv fz), (Iv f5), (Iv gb), (Iv gh), (Iv b6), (Iv cc), (.bool ci), (.slice ag au am)] fun g4 =>
 (∃ cq c0 c8 dg dn dv d1 d7 ed ej bg bn : Int, ∃ bt : Bool, ∃ n : OA, ∃ aa t : Nat, cellsAt g4 ⟨jg, 0, none⟩ 0 [(Iv cq), (Iv c0), (Iv c8), (Iv dg), (Iv dn), (Iv dv), (Iv d1), (Iv d7), (Iv ed), (Iv ej), (Iv bg), (Iv bn), (.bool bt), (.slice n aa t)] ∧
 R (.agg #[Iv cq, Iv c0, Iv c8, Iv dg, Iv dn, Iv dv, Iv d1, Iv d7, Iv ed, Iv ej, Iv bg, Iv bn, .bool bt, .slice n aa t]) g4)))))))))))))))))))))))
theorem F_law21_random_ok {R : EP} (d_b d_o : Nat) (w : World) (h : F_law21_random d_b d_o w fun v w' => R (.returned v) w') : CP N_law21_random #[(.pointer (some ⟨d_b, d_o, none⟩))] w R :=
 calls_of (k := TTk) (h := h_law21_random) (f := 13) follows_ok Tryz.func13 (Eq.mpr (by kernel_rfl) h)

def h_ref18_Encode : H := (.seq .reg (.seq (.seq .reg (.cond (.seq .reg .leaf) .leaf)) (.seq .reg (.seq (.seq .reg (.cond .reg .leaf)) (.seq .reg .leaf)))))
def F_ref18_Encode (bits p_0 p_1 p_2 p_3 : Int) (p_4_a : OA) (p_4_l p_4_c : Nat) (w : World) (R : Value → WP) : Prop :=
 (kAlloc w #[(Iv p_0), (Iv p_1), (Iv p_2), (Iv p_3), (.slice p_4_a p_4_l p_4_c)] Ty_api_Piece fun l ae =>
 (∃ m n o p : Int, ∃ a : OA, ∃ c b : Nat, cellsAt ae ⟨l, 0, none⟩ 0 [(Iv m), (Iv n), (Iv o), (Iv p), (.slice a c b)] ∧
 (CP N_ref18_Valid #[(Iv bits), (.agg #[Iv m, Iv n, Iv o, Iv p, .slice a c b])] ae fun ak j =>
 ∃ ay : Bool, ak = .returned (.bool ay) ∧
 (bsplit (!ay)
 (R (.tuple #[(.slice none 0 0), (Iv (1 : Int))]) j)
 ((kLd j ⟨l, 2, none⟩ .i64 fun az =>
 (kW .i64 ((16384 : Int) * az) fun an =>
 (kW .i64 ((32768 : Int) + an) fun ao =>
 (kLd j ⟨l, 1, none⟩ .i64 fun ap =>
 (kW .i64 ((4096 : Int) * ap) fun aq =>
 (kW .i64 (ao + aq) fun ar =>
 (kLd j ⟨l, 0, none⟩ .i64 fun au =>
 (kW .i64 (ar + au) fun av =>
 (CP N_ref01_Put #[(.slice none 0 0), (Iv (2 : Int)), (Iv av)] j fun aa af =>
 ∃ d : OA, ∃ h f : Nat, aa = .returned (.slice d h f) ∧
 (kLd af ⟨l, 1, none⟩ .i64 fun aw =>
 (CP N_ref18_Head #[(Iv aw)] af fun ab k =>
 ∃ ad : Int, ab = .returned (Iv ad) ∧
 (bsplit (decide (ad = (4 : Int)))
 ((kLd k ⟨l, 3, none⟩ .i64 fun ax =>
 (CP N_ref01_Put #[(.slice d h f), (Iv (2 : Int)), (Iv ax)] k fun ac ag =>
 ∃ e : OA, ∃ i g : Nat, ac = .returned (.slice e i g) ∧
 (kLdS ag ⟨l, 4, none⟩ fun ah aj ai =>
 (AppP Tryz.prog #[Ty_S_uint8, Ty_S_uint8] Ty_S_uint8 #[(.slice e i g), (.slice ah aj ai)] ag fun q x t al =>
 R (.tuple #[(.slice q x t), (Iv (0 : Int))]) al)))))
 ((kLdS k ⟨l, 4, none⟩ fun r y u =>
 (AppP Tryz.prog #[Ty_S_uint8, Ty_S_uint8] Ty_S_uint8 #[(.slice d h f), (.slice r y u)] k fun s z v am =>
 R (.tuple #[(.slice s z v), (Iv (0 : Int))]) am))))))))))))))))))))
theorem F_ref18_Encode_ok {R : EP} (bits p_0 p_1 p_2 p_3 : Int) (p_4_a : OA) (p_4_l p_4_c : Nat) (w : World) (h : F_ref18_Encode bits p_0 p_1 p_2 p_3 p_4_a p_4_l p_4_c w fun v w' => R (.returned v) w') : CP N_ref18_Encode #[(Iv bits), (.agg #[Iv p_0, Iv p_1, Iv p_2, Iv p_3, .slice p_4_a p_4_l p_4_c])] w R :=
 calls_of (k := TTk) (h := h_ref18_Encode) (f := 14) follows_ok Tryz.func14 (Eq.mpr (by kernel_rfl) h)

def h_law21_piece : H := (.seq .reg (.seq .reg (.cut [(5, .p (.int .i64))] [5, 13, 14, 15, 16, 17, 18, 19, 20, 21, 22, 23, 24] (.seq .reg (.cond .reg .leaf)) (.seq .reg (.seq .reg (.cut [(7, .p .slice)] [7, 38, 39, 40, 41, 42, 43] (.seq .reg (.cond .reg .leaf)) (.seq .reg (.seq .reg (.cut [(8, .p (.int .i64)), (9, .p (.int .i64))] [8, 9, 57, 58, 59, 60] (.seq .reg (.cond .reg .leaf)) (.cut [(10, .p .addr)] [10, 61, 62, 63, 64, 65, 66, 67, 68, 69] (.draw .blk (.one 0 .pur (.one 1 .pur (.one 3 .pur (.one 4 .pur (.one 5 .pur (.one 6 .pur (.one 7 .pur (.alt 2 (.alt 8 (.one 9 .keep (.one 10 .last .nil)) (.alt 9 (.one 8 .keep (.one 10 .last .nil)) .endAlt)) (.alt 9 (.one 2 .keep (.one 8 .keep (.one 10 .last .nil))) .endAlt)))))))))) (.seq (.block (.cut [(70, .p .bool)] [70, 71, 72, 73, 74, 75, 76, 77, 78] .reg (.cond .reg (.seq .reg (.cond .reg (.seq .reg (.cond .reg .leaf))))))) (.seq .reg .leaf))))))))))))
def F_law21_piece (d_b d_o : Nat) (r_0 r_1 r_2 r_3 r_4 r_5 r_6 r_7 r_8 r_9 r_10 r_11 : Int) (r_12 : Bool) (r_13_a : OA) (r_13_l r_13_c : Nat) (w : World) (R : Value → WP) : Prop :=
 (kAlloc w #[(Iv r_0), (Iv r_1), (Iv r_2), (Iv r_3), (Iv r_4), (Iv r_5), (Iv r_6), (Iv r_7), (Iv r_8), (Iv r_9), (Iv r_10), (Iv r_11), (.bool r_12), (.slice r_13_a r_13_l r_13_c)] Ty_api_Receiver fun dg di =>
 (kAlloc di #[Iv (0 : Int), Iv (0 : Int), Iv (0 : Int), Iv (0 : Int), .slice none 0 0] Ty_api_Piece fun g dj =>
 (CP N_made_Dice_Next #[(.pointer (some ⟨d_b, d_o, none⟩)), (Iv (7 : Int))] dj fun dh dk =>
 ∃ dy : Int, dh = .returned (Iv dy) ∧
 (∃ df : Int → WP,
 (∀ (_ : Env) (dx : Int) (bl : World), df dx bl →
 (kLd bl ⟨dg, 0, none⟩ .i64 fun dt =>
 (kLd bl ⟨dg, 6, none⟩ .i64 fun du =>
 (kW .i64 (du + dx) fun dv =>
 (CP N_ref02_Low #[(Iv dt), (Iv dv)] bl fun cl dm =>
 ∃ aa : Int, cl = .returned (Iv aa) ∧
 (kLet (Int.tmod aa (9 : Int)) fun dw =>
 (kW .i64 ((4 : Int) + dw) fun c5 =>
 (CP N_made_Filled #[(Iv c5), (Iv aa)] dm fun cm dn =>
 ∃ bo : OA, ∃ bq bp : Nat, cm = .returned (.slice bo bq bp) ∧
 (∃ b9 : OA → Nat → Nat → WP,
 (∀ (_ : Env) (ae : OA) (e : Nat) (d : Nat) (br : World), b9 ae e d br →
 (CP N_made_Dice_Next #[(.pointer (some ⟨d_b, d_o, none⟩)), (Iv (e : Int))] br fun cp cz =>
 ∃ bk : Int, cp = .returned (Iv bk) ∧
 (kW .i64 (bk + (1 : Int)) fun c8 =>
 (kW .i64 ((e : Int) - bk) fun c9 =>
 (CP N_made_Dice_Next #[(.pointer (some ⟨d_b, d_o, none⟩)), (Iv c9)] cz fun cq c0 =>
 ∃ cv : Int, cq = .returned (Iv cv) ∧
 (kW .i64 (c8 + cv) fun da =>
 (∃ ca : Int → Int → WP,
 (∀ (_ : Env) (a : Int) (c : Int) (bt : World), ca a c bt →
 (∃ bj : Addr → WP,
 (∀ (_ : Env) (bn : Addr) (a6 : World), bj bn a6 →
 (∃ cb : Bool → WP,
 (∀ (_ : Env) (b4 : Bool) (f : World), cb b4 f →
 (bsplit b4
 ((kSet f (bn.add 1) (Iv (0 : Int)) fun bw =>
 (∃ b5 b6 b7 b8 : Int, ∃ ag : OA, ∃ ai ah : Nat, cellsAt bw bn 0 [(Iv b5), (Iv b6), (Iv b7), (Iv b8), (.slice ag ai ah)] ∧
 (sxStore bw ⟨g, 0, none⟩ 0 [(Iv b5), (Iv b6), (Iv b7), (Iv b8), (.slice ag ai ah)] fun bx =>
 (∃ aj an ar ax : Int, ∃ ab : OA, ∃ ad ac : Nat, cellsAt bx ⟨g, 0, none⟩ 0 [(Iv aj), (Iv an), (Iv ar), (Iv ax), (.slice ab ad ac)] ∧
 R (.agg #[Iv aj, Iv an, Iv ar, Iv ax, .slice ab ad ac]) bx)))))
 ((kLet (decide (a = (0 : Int))) fun dc =>
 (bsplit dc
 ((kSet f (bn.add 1) (Iv (1 : Int)) fun bz =>
 (∃ a7 ba bd bg : Int, ∃ q : OA, ∃ x t : Nat, cellsAt bz bn 0 [(Iv a7), (Iv ba), (Iv bd), (Iv bg), (.slice q x t)] ∧
 (sxStore bz ⟨g, 0, none⟩ 0 [(Iv a7), (Iv ba), (Iv bd), (Iv bg), (.slice q x t)] fun b0 =>
 (∃ ak ao au ay : Int, ∃ h : OA, ∃ n k : Nat, cellsAt b0 ⟨g, 0, none⟩ 0 [(Iv ak), (Iv ao), (Iv au), (Iv ay), (.slice h n k)] ∧
 R (.agg #[Iv ak, Iv ao, Iv au, Iv ay, .slice h n k]) b0)))))
 ((kLet (decide (c = (e : Int))) fun dd =>
 (bsplit dd
 ((kSet f (bn.add 1) (Iv (2 : Int)) fun b1 =>
 (∃ a8 bb be bh : Int, ∃ r : OA, ∃ y u : Nat, cellsAt b1 bn 0 [(Iv a8), (Iv bb), (Iv be), (Iv bh), (.slice r y u)] ∧
 (sxStore b1 ⟨g, 0, none⟩ 0 [(Iv a8), (Iv bb), (Iv be), (Iv bh), (.slice r y u)] fun b2 =>
 (∃ al ap av az : Int, ∃ i : OA, ∃ o l : Nat, cellsAt b2 ⟨g, 0, none⟩ 0 [(Iv al), (Iv ap), (Iv av), (Iv az), (.slice i o l)] ∧
 R (.agg #[Iv al, Iv ap, Iv av, Iv az, .slice i o l]) b2)))))
 ((∃ a9 bc bf bi : Int, ∃ s : OA, ∃ z v : Nat, cellsAt f bn 0 [(Iv a9), (Iv bc), (Iv bf), (Iv bi), (.slice s z v)] ∧
 (sxStore f ⟨g, 0, none⟩ 0 [(Iv a9), (Iv bc), (Iv bf), (Iv bi), (.slice s z v)] fun b3 =>
 (∃ am aq aw a0 : Int, ∃ j : OA, ∃ p m : Nat, cellsAt b3 ⟨g, 0, none⟩ 0 [(Iv am), (Iv aq), (Iv aw), (Iv a0), (.slice j p m)] ∧
 R (.agg #[Iv am, Iv aq, Iv aw, Iv a0, .slice j p m]) b3)))))))))))) ∧
 (bsplit (decide (a = (0 : Int)))
 ((kLet (decide (c = (e : Int))) fun db =>
 cb db a6))
 (cb false a6)))) ∧
 (kDrew bt fun b =>
 (∃ bm : Nat → Prop,
 ((0 ≤ c ∧ c ≤ ((d : Nat) : Int)) ∧ ((0 ≤ a ∧ a ≤ ((c.toNat : Nat) : Int)) ∧ ((CP N_made_Dice_Next #[(.pointer (some ⟨d_b, d_o, none⟩)), (Iv (2 : Int))] b fun cd af =>
 ∃ ce : Int, cd = .returned (Iv ce) ∧
 (KeepsB bm b af ∧ ((KeepsB bm b af ∧ (kAlloc af #[Iv (0 : Int), Iv (0 : Int), Iv (0 : Int), Iv (0 : Int), .slice none 0 0] Ty_api_Piece fun ci bv =>
 (KeepsB bm b bv ∧ (sxStore bv ⟨ci, 0, none⟩ 0 [(Iv aa), (Iv (3 : Int)), (Iv ce), (Iv a), (.slice (slAddr d (a.toNat) 1 ae) (c.toNat - a.toNat) (d - a.toNat))] fun c3 =>
 bj ⟨ci, 0, none⟩ c3)))) ∧
 ((kAlloc af #[Iv (0 : Int), Iv (0 : Int), Iv (0 : Int), Iv (0 : Int), .slice none 0 0] Ty_api_Piece fun ch a5 =>
 (KeepsB bm b a5 ∧ (KeepsB bm b a5 ∧ (sxStore a5 ⟨ch, 0, none⟩ 0 [(Iv aa), (Iv (3 : Int)), (Iv ce), (Iv a), (.slice (slAddr d (a.toNat) 1 ae) (c.toNat - a.toNat) (d - a.toNat))] fun c2 =>
 bj ⟨ch, 0, none⟩ c2)))) ∧
 True)))) ∧
 ((kAlloc b #[Iv (0 : Int), Iv (0 : Int), Iv (0 : Int), Iv (0 : Int), .slice none 0 0] Ty_api_Piece fun cg bu =>
 (KeepsB bm b bu ∧ (CP N_made_Dice_Next #[(.pointer (some ⟨d_b, d_o, none⟩)), (Iv (2 : Int))] bu fun cc a4 =>
 ∃ cx : Int, cc = .returned (Iv cx) ∧
 (KeepsB bm b a4 ∧ (KeepsB bm b a4 ∧ (sxStore a4 ⟨cg, 0, none⟩ 0 [(Iv aa), (Iv (3 : Int)), (Iv cx), (Iv a), (.slice (slAddr d (a.toNat) 1 ae) (c.toNat - a.toNat) (d - a.toNat))] fun c1 =>
 bj ⟨cg, 0, none⟩ c1)))))) ∧
 True)))))))) ∧
 (CP N_made_Dice_One #[(.pointer (some ⟨d_b, d_o, none⟩)), (Iv (3 : Int))] c0 fun cr bs =>
 ∃ cw : Bool, cr = .returned (.bool cw) ∧
 (bsplit cw
 (ca (0 : Int) (e : Int) bs)
 (ca bk da bs)))))))))) ∧
 (CP N_made_Dice_One #[(.pointer (some ⟨d_b, d_o, none⟩)), (Iv (15 : Int))] dn fun cn c4 =>
 ∃ cu : Bool, cn = .returned (.bool cu) ∧
 (bsplit cu
 ((kLet (Int.tmod aa (11 : Int)) fun c6 =>
 (kW .i64 ((3 : Int) + c6) fun c7 =>
 (CP N_made_Filled #[(Iv c7), (Iv (1 : Int))] c4 fun co cy =>
 ∃ a1 : OA, ∃ a3 a2 : Nat, co = .returned (.slice a1 a3 a2) ∧
 b9 a1 a3 a2 cy))))
 (b9 bo bq bp c4)))))))))))) ∧
 (CP N_made_Dice_One #[(.pointer (some ⟨d_b, d_o, none⟩)), (Iv (6 : Int))] dk fun cj cf =>
 ∃ cs : Bool, cj = .returned (.bool cs) ∧
 (bsplit cs
 ((kLd cf ⟨dg, 0, none⟩ .i64 fun dz =>
 (kW .i64 (dz - (1 : Int)) fun dp =>
 (kW .u64 (dp) fun de =>
 (0 ≤ de ∧ (kW .i64 ((1 : Int) * 2 ^ (min de.toNat (IntKind.bits .i64))) fun dq =>
 (kW .i64 (dq + (6 : Int)) fun dr =>
 (CP N_made_Dice_Next #[(.pointer (some ⟨d_b, d_o, none⟩)), (Iv dr)] cf fun ck dl =>
 ∃ ct : Int, ck = .returned (Iv ct) ∧
 (kW .i64 (ct - (3 : Int)) fun ds =>
 df ds dl)))))))))
 (df dy cf)))))))
theorem F_law21_piece_ok {R : EP} (d_b d_o : Nat) (r_0 r_1 r_2 r_3 r_4 r_5 r_6 r_7 r_8 r_9 r_10 r_11 : Int) (r_12 : Bool) (r_13_a : OA) (r_13_l r_13_c : Nat) (w : World) (h : F_law21_piece d_b d_o r_0 r_1 r_2 r_3 r_4 r_5 r_6 r_7 r_8 r_9 r_10 r_11 r_12 r_13_a r_13_l r_13_c w fun v w' => R (.returned v) w') : CP N_law21_piece #[(.pointer (some ⟨d_b, d_o, none⟩)), (.agg #[Iv r_0, Iv r_1, Iv r_2, Iv r_3, Iv r_4, Iv r_5, Iv r_6, Iv r_7, Iv r_8, Iv r_9, Iv r_10, Iv r_11, .bool r_12, .slice r_13_a r_13_l r_13_c])] w R :=
 calls_of (k := TTk) (h := h_law21_piece) (f := 15) follows_ok Tryz.func15 (Eq.mpr (by kernel_rfl) h)

def h_made_Dice_One : H := (.seq .reg (.seq .reg .leaf))
def F_made_Dice_One (d_b d_o : Nat) (n : Int) (w : World) (R : Value → WP) : Prop :=
 (CP N_made_Dice_Next #[(.pointer (some ⟨d_b, d_o, none⟩)), (Iv n)] w fun a b =>
 ∃ d : Int, a = .returned (Iv d) ∧
 (kW .i64 (n - (1 : Int)) fun e =>
 (kLet (decide (d = e)) fun c =>
 R (.bool c) b)))
theorem F_made_Dice_One_ok {R : EP} (d_b d_o : Nat) (n : Int) (w : World) (h : F_made_Dice_One d_b d_o n w fun v w' => R (.returned v) w') : CP N_made_Dice_One #[(.pointer (some ⟨d_b, d_o, none⟩)), (Iv n)] w R :=
 calls_of (k := TTk) (h := h_made_Dice_One) (f := 16) follows_ok Tryz.func16 (Eq.mpr (by kernel_rfl) h)

def h_made_Dice_Spoil : H := (.seq .reg (.seq .reg (.seq .reg (.seq (.seq .reg (.cond (.seq .reg .leaf) .leaf)) (.seq .reg (.seq (.seq .reg (.block (.seq .reg (.cond .reg (.seq .reg (.cond (.draw .blk (.one 0 .stable (.one 1 .stable (.one 2 .stable (.one 3 .stable (.one 4 .pre (.one 5 .keep (.one 6 .stable (.one 7 .stable (.one 8 .stable (.one 9 .stable (.one 10 .last .nil)))))))))))) (.seq .reg (.cond (.draw .blk (.one 0 .pre (.one 1 .pre (.one 2 .pre (.one 3 .pre (.one 4 .pre (.one 5 .pre (.one 6 .pre (.one 7 .keep (.one 8 .stable .nil)))))))))) (.draw .blk (.one 0 .stable (.one 1 .stable (.one 2 .stable (.one 3 .pre (.one 5 .stable (.one 6 .stable (.one 7 .stable (.one 4 .keep (.one 8 .keep (.one 9 .keep (.one 10 .stable .nil)))))))))))))))))))) (.seq .reg .leaf)))))))
def F_made_Dice_Spoil (d_b d_o : Nat) (b_a : OA) (b_l b_c : Nat) (w : World) (R : Value → WP) : Prop :=
 (AppP Tryz.prog #[Ty_S_uint8, Ty_S_uint8] Ty_S_uint8 #[(.slice none 0 0), (.slice b_a b_l b_c)] w fun d c b am =>
 (CP N_made_Dice_Next #[(.pointer (some ⟨d_b, d_o, none⟩)), (Iv (256 : Int))] am fun al ae =>
 ∃ a1 : Int, al = .returned (Iv a1) ∧
 (kW .u8 (a1) fun ar =>
 (bsplit (decide ((c : Int) = (0 : Int)))
 ((kAlloc ae #[(.int .u8 ar)] Ty_uint8 fun a2 an =>
 R (.slice (some ⟨a2, 0, none⟩) 1 1) an))
 ((CP N_made_Dice_Next #[(.pointer (some ⟨d_b, d_o, none⟩)), (Iv (c : Int))] ae fun aa ao =>
 ∃ a : Int, aa = .returned (Iv a) ∧
 (CP N_made_Dice_Next #[(.pointer (some ⟨d_b, d_o, none⟩)), (Iv (4 : Int))] ao fun ab h =>
 ∃ g : Int, ab = .returned (Iv g) ∧
 (kLet (decide (g = (0 : Int))) fun au =>
 (bsplit au
 ((kIx d c a fun ai =>
 (kSet h (ai.add (a.toNat * 1)) (.int .u8 ar) fun ap =>
 R (.slice d c b) ap)))
 ((kLet (decide (g = (1 : Int))) fun av =>
 (bsplit av
 ((kDrew h fun o =>
 (∃ a0 : Nat → Prop,
 (kIx d c a fun z =>
 (a0 (z.add (a.toNat * 1)).block ∧
 (kLd o (z.add (a.toNat * 1)) .u8 fun aw =>
 (CP N_made_Dice_Next #[(.pointer (some ⟨d_b, d_o, none⟩)), (Iv (8 : Int))] o fun ac af =>
 ∃ ad : Int, ac = .returned (Iv ad) ∧
 (KeepsB a0 o af ∧ (kW .u64 (ad) fun ag =>
 (0 ≤ ag ∧ (kW .u8 ((1 : Int) * 2 ^ (min ag.toNat (IntKind.bits .u8))) fun ax =>
 (kLet (bXor .u8 aw ax) fun ay =>
 (kIx d c a fun aj =>
 (kSet af (aj.add (a.toNat * 1)) (.int .u8 ay) fun aq =>
 R (.slice d c b) aq))))))))))))))
 ((kLet (decide (g = (2 : Int))) fun az =>
 (bsplit az
 ((kDrew h fun i =>
 (∃ ah : Nat → Prop,
 ((0 ≤ a ∧ a ≤ ((b : Nat) : Int)) ∧ (kW .i64 (a + (1 : Int)) fun f =>
 ((0 ≤ f ∧ f ≤ ((c : Nat) : Int)) ∧ (AppP Tryz.prog #[Ty_S_uint8, Ty_S_uint8] Ty_S_uint8 #[(.slice (slAddr b 0 1 d) (a.toNat - 0) (b - 0)), (.slice (slAddr b (f.toNat) 1 d) (c - f.toNat) (b - f.toNat))] i fun p v s j =>
 (KeepsB ah i j ∧ R (.slice p v s) j))))))))
 ((kDrew h fun e =>
 (∃ n : Nat → Prop,
 ((0 ≤ a ∧ a ≤ ((b : Nat) : Int)) ∧ ((0 ≤ a ∧ a ≤ ((c : Nat) : Int)) ∧ (kAlloc e #[(.int .u8 ar)] Ty_uint8 fun ak k =>
 (KeepsB n e k ∧ (AppP Tryz.prog #[Ty_S_uint8, Ty_S_uint8] Ty_S_uint8 #[(.slice (some ⟨ak, 0, none⟩) 1 1), (.slice (slAddr b (a.toNat) 1 d) (c - a.toNat) (b - a.toNat))] k fun q x t l =>
 (KeepsB n e l ∧ (AppP Tryz.prog #[Ty_S_uint8, Ty_S_uint8] Ty_S_uint8 #[(.slice (slAddr b 0 1 d) (a.toNat - 0) (b - 0)), (.slice q x t)] l fun r y u m =>
 (KeepsB n e m ∧ R (.slice r y u) m))))))))))))))))))))))))))
theorem F_made_Dice_Spoil_ok {R : EP} (d_b d_o : Nat) (b_a : OA) (b_l b_c : Nat) (w : World) (h : F_made_Dice_Spoil d_b d_o b_a b_l b_c w fun v w' => R (.returned v) w') : CP N_made_Dice_Spoil #[(.pointer (some ⟨d_b, d_o, none⟩)), (.slice b_a b_l b_c)] w R :=
 calls_of (k := TTk) (h := h_made_Dice_Spoil) (f := 17) follows_ok Tryz.func17 (Eq.mpr (by kernel_rfl) h)

def h_made_Dice_Next : H := (.seq .reg (.seq (.seq (.draw .no (.one 0 .stable (.one 1 .stable (.one 2 .stable (.one 3 .stable (.one 4 .stable (.one 5 .stable (.one 6 .stable (.one 7 .stable (.one 8 .stable (.one 9 .stable .nil))))))))))) (.cond (.seq .reg .leaf) .leaf)) (.seq .reg (.seq (.draw .blk (.one 0 .pre (.one 1 .pre (.one 2 .pre (.one 3 .pre (.one 4 .pre (.one 5 .pre (.one 6 .pre (.one 7 .pre (.one 8 .pre (.one 9 .pre (.one 10 .pre (.one 11 .pre (.one 12 .keep (.one 13 .stable .nil))))))))))))))) .leaf))))
def F_made_Dice_Next (d_b d_o : Nat) (n : Int) (w : World) (R : Value → WP) : Prop :=
 (kDrew w fun a =>
 (kLd a ⟨d_b, d_o + 1, none⟩ .i64 fun r =>
 (kLdS a ⟨d_b, d_o, none⟩ fun _ g _ =>
 (bsplit (decide (r ≥ (g : Int)))
 (R (Iv (0 : Int)) a)
 ((kLd a ⟨d_b, d_o + 1, none⟩ .i64 fun j =>
 (kW .i64 (j + (1 : Int)) fun k =>
 (kSet a ⟨d_b, d_o + 1, none⟩ (Iv k) fun i =>
 (kDrew i fun b =>
 (∃ p : Nat → Prop,
 (kLdS b ⟨d_b, d_o, none⟩ fun c d _ =>
 (kLd b ⟨d_b, d_o + 1, none⟩ .i64 fun l =>
 (kW .i64 (l - (1 : Int)) fun f =>
 (kIx c d f fun q =>
 (kLd b (q.add (f.toNat * 1)) .i64 fun m =>
 (CP N_made_Mod #[(Iv m), (Iv n)] b fun h e =>
 ∃ o : Int, h = .returned (Iv o) ∧
 (KeepsB p b e ∧ R (Iv o) e)))))))))))))))))
theorem F_made_Dice_Next_ok {R : EP} (d_b d_o : Nat) (n : Int) (w : World) (h : F_made_Dice_Next d_b d_o n w fun v w' => R (.returned v) w') : CP N_made_Dice_Next #[(.pointer (some ⟨d_b, d_o, none⟩)), (Iv n)] w R :=
 calls_of (k := TTk) (h := h_made_Dice_Next) (f := 18) follows_ok Tryz.func18 (Eq.mpr (by kernel_rfl) h)

def h_made_Dice_OddLink : H := (.seq .reg (.seq .reg (.cut [] [11, 12, 13, 14, 15, 16, 17, 18, 19, 20, 21, 22, 23, 24, 25, 26, 27, 28, 29, 30, 31, 32, 33, 34] (.seq .reg (.block (.seq .reg (.cond .reg (.seq .reg (.cond .reg (.seq .reg (.cond .reg (.seq .reg (.cond .reg (.seq .reg (.cond .reg .reg)))))))))))) (.seq .reg .leaf))))
def F_made_Dice_OddLink (d_b d_o : Nat) (l_0 l_1 l_2 l_3 l_4 l_5 : Int) (w : World) (R : Value → WP) : Prop :=
 (kAlloc w #[(Iv l_0), (Iv l_1), (Iv l_2), (Iv l_3), (Iv l_4), (Iv l_5)] Ty_api_Link fun r ad =>
 (kAlloc ad #[Iv (0 : Int), Iv (0 : Int), Iv (0 : Int), Iv (0 : Int), Iv (0 : Int), Iv (0 : Int)] Ty_api_Link fun t ae =>
 (kAlloc ae #[(Iv (-1 : Int)), (Iv (0 : Int)), (Iv (1 : Int)), (Iv (4 : Int)), (Iv (10 : Int)), (Iv (64 : Int)), (Iv (65 : Int)), (Iv (1000 : Int)), (Iv (1001 : Int)), (Iv (33 : Int))] Ty_int fun z af =>
 (CP N_made_Dice_Next #[(.pointer (some ⟨d_b, d_o, none⟩)), (Iv (10 : Int))] af fun ab y =>
 ∃ ac : Int, ab = .returned (Iv ac) ∧
 (kIx (some ⟨z, 0, none⟩) 10 ac fun aa =>
 (kLd y (aa.add (ac.toNat * 1)) .i64 fun s =>
 (∃ q : WP,
 (∀ (_ : Env)  (c : World), q c →
 (∃ k l m n o p : Int, cellsAt c ⟨r, 0, none⟩ 0 [(Iv k), (Iv l), (Iv m), (Iv n), (Iv o), (Iv p)] ∧
 (sxStore c ⟨t, 0, none⟩ 0 [(Iv k), (Iv l), (Iv m), (Iv n), (Iv o), (Iv p)] fun j =>
 (∃ d e f g h i : Int, cellsAt j ⟨t, 0, none⟩ 0 [(Iv d), (Iv e), (Iv f), (Iv g), (Iv h), (Iv i)] ∧
 R (.agg #[Iv d, Iv e, Iv f, Iv g, Iv h, Iv i]) j)))) ∧
 (CP N_made_Dice_Next #[(.pointer (some ⟨d_b, d_o, none⟩)), (Iv (6 : Int))] y fun u b =>
 ∃ a : Int, u = .returned (Iv a) ∧
 (kLet (decide (a = (0 : Int))) fun ak =>
 (bsplit ak
 ((kSet b ⟨r, 0, none⟩ (Iv s) fun ag =>
 q ag))
 ((kLet (decide (a = (1 : Int))) fun al =>
 (bsplit al
 ((kSet b ⟨r, 1, none⟩ (Iv s) fun ah =>
 q ah))
 ((kLet (decide (a = (2 : Int))) fun am =>
 (bsplit am
 ((kSet b ⟨r, 2, none⟩ (Iv s) fun ai =>
 q ai))
 ((kLet (decide (a = (3 : Int))) fun an =>
 (bsplit an
 ((kSet b ⟨r, 3, none⟩ (Iv s) fun aj =>
 q aj))
 ((kLet (decide (a = (4 : Int))) fun ao =>
 (bsplit ao
 ((kSet b ⟨r, 4, none⟩ (Iv s) fun v =>
 q v))
 ((kSet b ⟨r, 5, none⟩ (Iv s) fun x =>
 q x))))))))))))))))))))))))
theorem F_made_Dice_OddLink_ok {R : EP} (d_b d_o : Nat) (l_0 l_1 l_2 l_3 l_4 l_5 : Int) (w : World) (h : F_made_Dice_OddLink d_b d_o l_0 l_1 l_2 l_3 l_4 l_5 w fun v w' => R (.returned v) w') : CP N_made_Dice_OddLink #[(.pointer (some ⟨d_b, d_o, none⟩)), (.agg #[Iv l_0, Iv l_1, Iv l_2, Iv l_3, Iv l_4, Iv l_5])] w R :=
 calls_of (k := TTk) (h := h_made_Dice_OddLink) (f := 19) follows_ok Tryz.func19 (Eq.mpr (by kernel_rfl) h)

def h_receiver_Receive : H := (.seq .reg (.seq (.seq .reg (.cond (.seq .reg .leaf) .leaf)) (.seq .reg (.seq .reg (.seq (.seq .reg (.cond (.seq .reg .leaf) .leaf)) (.cut [(10, .p .addr)] [10, 37, 38, 39, 40, 41, 42, 43, 44, 45, 46, 47] (.draw .blk (.one 0 .stable (.one 1 .stable (.one 2 .stable (.one 3 .stable (.one 4 .stable (.one 5 .stable (.one 6 .stable (.one 7 .stable (.one 8 .stable (.alt 9 (.alt 10 (.one 11 .keep (.one 12 .last .nil)) (.alt 11 (.one 10 .keep (.one 12 .last .nil)) .endAlt)) (.alt 11 (.one 9 .keep (.one 10 .keep (.one 12 .last .nil))) .endAlt)))))))))))) (.seq (.draw .blk (.one 0 .stable (.one 1 .stable (.one 2 .stable (.one 3 .stable (.one 4 .stable (.one 5 .pre (.one 6 .pre (.one 7 .pre (.one 8 .pre (.one 10 .stable (.one 9 .keep (.one 11 .keep (.one 12 .stable (.one 13 .stable (.one 14 .stable (.one 15 .stable (.one 16 .stable .nil)))))))))))))))))) (.seq (.seq .reg (.seq .reg (.cond (.seq .reg (.seq .reg .leaf)) .leaf))) (.cut [] [78, 79, 80, 81, 82, 83, 84, 85, 86, 87, 88, 89, 90, 91, 92, 93, 94, 95] (.seq .reg (.cond (.draw .blk (.one 0 .stable (.one 1 .stable (.one 2 .stable (.one 3 .stable (.one 4 .stable (.one 5 .stable (.one 6 .stable (.one 7 .pre (.one 8 .pre (.one 9 .pre (.one 10 .keep (.one 11 .keep (.one 12 .keep (.one 13 .stable (.one 14 .stable (.one 15 .stable (.one 16 .last .nil)))))))))))))))))) .leaf)) (.cut [] [96, 97, 98, 99, 100, 101, 102, 103, 104, 105, 106, 107, 108, 109, 110, 111, 112, 113, 114, 115, 116, 117] (.seq (.draw .blk (.one 0 .pre (.one 1 .pre (.one 2 .pre (.one 3 .pre (.one 5 .stable (.one 6 .stable (.one 7 .stable (.one 8 .stable (.one 9 .stable (.one 10 .stable (.one 4 .keep (.one 11 .keep (.one 12 .stable .nil)))))))))))))) (.cond (.draw .blk (.one 0 .stable (.one 1 .pre (.one 2 .pre (.one 3 .pre (.one 4 .pre (.one 5 .keep (.one 6 .stable (.one 7 .stable (.one 8 .stable (.one 9 .last .nil))))))))))) .leaf)) (.seq .reg (.seq .reg (.seq .reg (.cut [(15, .p .slice)] [15, 128, 129, 130, 131, 132, 133, 134, 135, 136, 137, 138, 139, 140, 141] (.seq .reg (.cond (.seq .reg .reg) .leaf)) (.seq .reg (.seq .reg (.seq .reg (.seq .reg .leaf))))))))))))))))))
def F_receiver_Receive (r_0 r_1 r_2 r_3 r_4 r_5 r_6 r_7 r_8 r_9 r_10 r_11 : Int) (r_12 : Bool) (r_13_a : OA) (r_13_l r_13_c : Nat) (b_a : OA) (b_l b_c : Nat) (w : World) (R : Value → WP) : Prop :=
 (kAlloc w #[(Iv r_0), (Iv r_1), (Iv r_2), (Iv r_3), (Iv r_4), (Iv r_5), (Iv r_6), (Iv r_7), (Iv r_8), (Iv r_9), (Iv r_10), (Iv r_11), (.bool r_12), (.slice r_13_a r_13_l r_13_c)] Ty_api_Receiver fun i6 i9 =>
 (kAlloc i9 #[Iv (0 : Int), Iv (0 : Int), Iv (0 : Int), Iv (0 : Int), Iv (0 : Int), Iv (0 : Int), Iv (0 : Int), Iv (0 : Int), Iv (0 : Int), Iv (0 : Int), Iv (0 : Int), Iv (0 : Int), .bool false, .slice none 0 0] Ty_api_Receiver fun am ig =>
 (∃ gu gv gw gx gy gz g0 g1 g2 g3 d9 ea : Int, ∃ eb : Bool, ∃ ar : OA, ∃ av au : Nat, cellsAt ig ⟨i6, 0, none⟩ 0 [(Iv gu), (Iv gv), (Iv gw), (Iv gx), (Iv gy), (Iv gz), (Iv g0), (Iv g1), (Iv g2), (Iv g3), (Iv d9), (Iv ea), (.bool eb), (.slice ar av au)] ∧
 (CP N_receiver_Valid #[(.agg #[Iv gu, Iv gv, Iv gw, Iv gx, Iv gy, Iv gz, Iv g0, Iv g1, Iv g2, Iv g3, Iv d9, Iv ea, .bool eb, .slice ar av au])] ig fun i8 hj =>
 ∃ jh : Bool, i8 = .returned (.bool jh) ∧
 (bsplit (!jh)
 ((sxStore hj ⟨am, 0, none⟩ 0 [(Iv (0 : Int)), (Iv (0 : Int)), (Iv (0 : Int)), (Iv (0 : Int)), (Iv (0 : Int)), (Iv (0 : Int)), (Iv (0 : Int)), (Iv (0 : Int)), (Iv (0 : Int)), (Iv (0 : Int)), (Iv (0 : Int)), (Iv (0 : Int)), (.bool false), (.slice none 0 0)] fun ik =>
 (∃ cl cq cv c0 c5 c9 dd dh dl dq be bi : Int, ∃ bm : Bool, ∃ j : OA, ∃ r n : Nat, cellsAt ik ⟨am, 0, none⟩ 0 [(Iv cl), (Iv cq), (Iv cv), (Iv c0), (Iv c5), (Iv c9), (Iv dd), (Iv dh), (Iv dl), (Iv dq), (Iv be), (Iv bi), (.bool bm), (.slice j r n)] ∧
 R (.tuple #[(.agg #[Iv cl, Iv cq, Iv cv, Iv c0, Iv c5, Iv c9, Iv dd, Iv dh, Iv dl, Iv dq, Iv be, Iv bi, .bool bm, .slice j r n]), (.slice none 0 0), (Iv (1 : Int))]) ik)))
 ((∃ d1 ec ei eq ey e2 e8 fe fi fm bz b4 : Int, ∃ ca : Bool, ∃ v : OA, ∃ ae aa : Nat, cellsAt hj ⟨i6, 0, none⟩ 0 [(Iv d1), (Iv ec), (Iv ei), (Iv eq), (Iv ey), (Iv e2), (Iv e8), (Iv fe), (Iv fi), (Iv fm), (Iv bz), (Iv b4), (.bool ca), (.slice v ae aa)] ∧
 (CP N_receiver_begin #[(.agg #[Iv d1, Iv ec, Iv ei, Iv eq, Iv ey, Iv e2, Iv e8, Iv fe, Iv fi, Iv fm, Iv bz, Iv b4, .bool ca, .slice v ae aa])] hj fun h0 ja =>
 ∃ h9 : OA, h0 = .returned (.pointer h9) ∧
 (kAlloc ja #[.pointer none] Ty_P_receiver_side fun a jb =>
 (kSet jb ⟨a, 0, none⟩ (.pointer h9) fun im =>
 (kLd im ⟨i6, 0, none⟩ .i64 fun ji =>
 (CP N_segment_Decode #[(Iv ji), (.slice b_a b_l b_c)] im fun h1 jc =>
 ∃ cm cr cw c1 : Int, ∃ bq : OA, ∃ bs br : Nat, ∃ hf : Int, h1 = .returned (.tuple #[(.agg #[Iv cm, Iv cr, Iv cw, Iv c1, .slice bq bs br]), (Iv hf)]) ∧
 (kAlloc jc #[Iv (0 : Int), Iv (0 : Int), Iv (0 : Int), Iv (0 : Int), .slice none 0 0] Ty_api_Piece fun h jd =>
 (sxStore jd ⟨h, 0, none⟩ 0 [(Iv cm), (Iv cr), (Iv cw), (Iv c1), (.slice bq bs br)] fun bt =>
 (bsplit (!decide (hf = (0 : Int)))
 ((∃ io : OA, bt.cell? ⟨a, 0, none⟩ = some (.pointer io) ∧
 (kNil io fun je =>
 (∃ d2 ed ej er ez e3 e9 ff fj fn b0 b5 : Int, ∃ cb : Bool, ∃ x : OA, ∃ af ab : Nat, cellsAt bt je 0 [(Iv d2), (Iv ed), (Iv ej), (Iv er), (Iv ez), (Iv e3), (Iv e9), (Iv ff), (Iv fj), (Iv fn), (Iv b0), (Iv b5), (.bool cb), (.slice x af ab)] ∧
 (sxStore bt ⟨am, 0, none⟩ 0 [(Iv d2), (Iv ed), (Iv ej), (Iv er), (Iv ez), (Iv e3), (Iv e9), (Iv ff), (Iv fj), (Iv fn), (Iv b0), (Iv b5), (.bool cb), (.slice x af ab)] fun fz =>
 (∃ cn cs cx c2 c6 da de di dm dr bf bj : Int, ∃ bn : Bool, ∃ k : OA, ∃ s o : Nat, cellsAt fz ⟨am, 0, none⟩ 0 [(Iv cn), (Iv cs), (Iv cx), (Iv c2), (Iv c6), (Iv da), (Iv de), (Iv di), (Iv dm), (Iv dr), (Iv bf), (Iv bj), (.bool bn), (.slice k s o)] ∧
 R (.tuple #[(.agg #[Iv cn, Iv cs, Iv cx, Iv c2, Iv c6, Iv da, Iv de, Iv di, Iv dm, Iv dr, Iv bf, Iv bj, .bool bn, .slice k s o]), (.slice none 0 0), (Iv hf)]) fz))))))
 ((∃ i5 : Addr → WP,
 (∀ (_ : Env) (fs : Addr) (f2 : World), i5 fs f2 →
 (kDrew f2 fun i =>
 (∃ fq : Nat → Prop,
 (fq a ∧
 (∃ i1 : OA, i.cell? ⟨a, 0, none⟩ = some (.pointer i1) ∧
 (kNil i1 fun i2 =>
 (fq (i2.add 13).block ∧
 (kLdS i (i2.add 13) fun hl hs hp =>
 (∃ i3 : OA, i.cell? ⟨a, 0, none⟩ = some (.pointer i3) ∧
 (kLd i fs .i64 fun jg =>
 (CP N_receiver_side_place #[(.pointer i3), (Iv jg)] i fun h4 f3 =>
 ∃ ib : Int, h4 = .returned (Iv ib) ∧
 (KeepsB fq i f3 ∧ (CP N_slices_BinarySearchFunc_Sapi_Partial_api_Partial_int #[(.slice hl hs hp), (Iv ib), (.func (.func N_receiver_Receive_1) #[] #[(.pointer (some ⟨a, 0, none⟩))])] f3 fun h5 bv =>
 ∃ an : Int, ∃ hh : Bool, h5 = .returned (.tuple #[(Iv an), (.bool hh)]) ∧
 (KeepsB fq i bv ∧ (∃ gd : OA, bv.cell? ⟨a, 0, none⟩ = some (.pointer gd) ∧
 (∃ d3 ee ek es : Int, ∃ aw : OA, ∃ a6 a1 : Nat, ∃ e4 : Int, ∃ fa : Bool, cellsAt bv fs 0 [(Iv d3), (Iv ee), (Iv ek), (Iv es), (.slice aw a6 a1), (Iv e4), (.bool fa)] ∧
 (CP N_receiver_side_refused #[(.pointer gd), (.agg #[Iv d3, Iv ee, Iv ek, Iv es, .slice aw a6 a1, Iv e4, .bool fa]), (Iv an), (.bool hh)] bv fun h6 ao =>
 ∃ hi : Int, h6 = .returned (Iv hi) ∧
 (bsplit (!decide (hi = (0 : Int)))
 ((∃ ge : OA, ao.cell? ⟨a, 0, none⟩ = some (.pointer ge) ∧
 (∃ d4 ef el et : Int, ∃ ax : OA, ∃ a7 a2 : Nat, cellsAt ao ⟨h, 0, none⟩ 0 [(Iv d4), (Iv ef), (Iv el), (Iv et), (.slice ax a7 a2)] ∧
 (CP N_receiver_side_poll #[(.pointer ge), (.agg #[Iv d4, Iv ef, Iv el, Iv et, .slice ax a7 a2])] ao fun h7 dw =>
 h7 = .returned (.tuple #[]) ∧
 (∃ gf : OA, dw.cell? ⟨a, 0, none⟩ = some (.pointer gf) ∧
 (kNil gf fun ip =>
 (∃ d5 eg em eu e0 e5 fb fg fk fo b1 b6 : Int, ∃ cc : Bool, ∃ y : OA, ∃ ag ac : Nat, cellsAt dw ip 0 [(Iv d5), (Iv eg), (Iv em), (Iv eu), (Iv e0), (Iv e5), (Iv fb), (Iv fg), (Iv fk), (Iv fo), (Iv b1), (Iv b6), (.bool cc), (.slice y ag ac)] ∧
 (sxStore dw ⟨am, 0, none⟩ 0 [(Iv d5), (Iv eg), (Iv em), (Iv eu), (Iv e0), (Iv e5), (Iv fb), (Iv fg), (Iv fk), (Iv fo), (Iv b1), (Iv b6), (.bool cc), (.slice y ag ac)] fun f4 =>
 (∃ co ct cy c3 c7 db df dj dn ds bg bk : Int, ∃ bo : Bool, ∃ l : OA, ∃ t p : Nat, cellsAt f4 ⟨am, 0, none⟩ 0 [(Iv co), (Iv ct), (Iv cy), (Iv c3), (Iv c7), (Iv db), (Iv df), (Iv dj), (Iv dn), (Iv ds), (Iv bg), (Iv bk), (.bool bo), (.slice l t p)] ∧
 R (.tuple #[(.agg #[Iv co, Iv ct, Iv cy, Iv c3, Iv c7, Iv db, Iv df, Iv dj, Iv dn, Iv ds, Iv bg, Iv bk, .bool bo, .slice l t p]), (.slice none 0 0), (Iv hi)]) f4)))))))))
 ((∃ g4 : WP,
 (∀ (_ : Env)  (f7 : World), g4 f7 →
 (∃ g5 : WP,
 (∀ (_ : Env)  (aq : World), g5 aq →
 (∃ gp : OA, aq.cell? ⟨a, 0, none⟩ = some (.pointer gp) ∧
 (kNil gp fun ix =>
 (kLdS aq (ix.add 13) fun hn hu _ =>
 (kIx hn hu an fun fr =>
 (∃ d6 eh en ev : Int, ∃ ay : OA, ∃ a8 a3 : Nat, ∃ e6 : Int, ∃ fc : Bool, cellsAt aq fs 0 [(Iv d6), (Iv eh), (Iv en), (Iv ev), (.slice ay a8 a3), (Iv e6), (.bool fc)] ∧
 (CP N_receiver_piece_put #[(.agg #[Iv d6, Iv eh, Iv en, Iv ev, .slice ay a8 a3, Iv e6, .bool fc]), (.pointer (some (fr.add (an.toNat * 5))))] aq fun ha ga =>
 ha = .returned (.tuple #[]) ∧
 (∃ g6 : OA → Nat → Nat → WP,
 (∀ (_ : Env) (bb : OA) (bd : Nat) (bc : Nat) (dy : World), g6 bb bd bc dy →
 (∃ gq : OA, dy.cell? ⟨a, 0, none⟩ = some (.pointer gq) ∧
 (CP N_receiver_side_advance #[(.pointer gq)] dy fun hc gb =>
 hc = .returned (.tuple #[]) ∧
 (∃ gr : OA, gb.cell? ⟨a, 0, none⟩ = some (.pointer gr) ∧
 (CP N_receiver_side_start #[(.pointer gr)] gb fun hd dz =>
 hd = .returned (.tuple #[]) ∧
 (∃ gs : OA, dz.cell? ⟨a, 0, none⟩ = some (.pointer gs) ∧
 (∃ d8 b7 ep ew : Int, ∃ a0 : OA, ∃ ba a5 : Nat, cellsAt dz ⟨h, 0, none⟩ 0 [(Iv d8), (Iv b7), (Iv ep), (Iv ew), (.slice a0 ba a5)] ∧
 (CP N_receiver_side_poll #[(.pointer gs), (.agg #[Iv d8, Iv b7, Iv ep, Iv ew, .slice a0 ba a5])] dz fun he d0 =>
 he = .returned (.tuple #[]) ∧
 (∃ gt : OA, d0.cell? ⟨a, 0, none⟩ = some (.pointer gt) ∧
 (kNil gt fun iz =>
 (∃ bx b8 ce ex e1 e7 fd fh fl fp b2 b9 : Int, ∃ cd : Bool, ∃ z : OA, ∃ ah ad : Nat, cellsAt d0 iz 0 [(Iv bx), (Iv b8), (Iv ce), (Iv ex), (Iv e1), (Iv e7), (Iv fd), (Iv fh), (Iv fl), (Iv fp), (Iv b2), (Iv b9), (.bool cd), (.slice z ah ad)] ∧
 (sxStore d0 ⟨am, 0, none⟩ 0 [(Iv bx), (Iv b8), (Iv ce), (Iv ex), (Iv e1), (Iv e7), (Iv fd), (Iv fh), (Iv fl), (Iv fp), (Iv b2), (Iv b9), (.bool cd), (.slice z ah ad)] fun gc =>
 (∃ cp cu cz c4 c8 dc dg dk dp dt bh bl : Int, ∃ bp : Bool, ∃ m : OA, ∃ u q : Nat, cellsAt gc ⟨am, 0, none⟩ 0 [(Iv cp), (Iv cu), (Iv cz), (Iv c4), (Iv c8), (Iv dc), (Iv dg), (Iv dk), (Iv dp), (Iv dt), (Iv bh), (Iv bl), (.bool bp), (.slice m u q)] ∧
 R (.tuple #[(.agg #[Iv cp, Iv cu, Iv cz, Iv c4, Iv c8, Iv dc, Iv dg, Iv dk, Iv dp, Iv dt, Iv bh, Iv bl, .bool bp, .slice m u q]), (.slice bb bd bc), (Iv (0 : Int))]) gc))))))))))))) ∧
 (∃ d7 : Int, ∃ b3 : Bool, ∃ eo : Int, ∃ cf : OA, ∃ ch cg : Nat, ∃ az : OA, ∃ a9 a4 : Nat, cellsAt ga (fr.add (an.toNat * 5)) 0 [(Iv d7), (.bool b3), (Iv eo), (.slice cf ch cg), (.slice az a9 a4)] ∧
 (CP N_receiver_complete #[(.agg #[Iv d7, .bool b3, Iv eo, .slice cf ch cg, .slice az a9 a4])] ga fun hb bw =>
 ∃ fv : Bool, hb = .returned (.bool fv) ∧
 (bsplit fv
 ((kLdS bw ((fr.add (an.toNat * 5)).add 3) fun ho hv hr =>
 (kLd bw fs .i64 fun iy =>
 (sxStore bw (fr.add (an.toNat * 5)) 0 [(Iv iy), (.bool true), (Iv (0 : Int)), (.slice none 0 0), (.slice none 0 0)] fun il =>
 g6 ho hv hr il))))
 (g6 none 0 0 bw)))))))))))) ∧
 (kDrew f7 fun d =>
 (∃ ck : Nat → Prop,
 (∃ gj : OA, d.cell? ⟨a, 0, none⟩ = some (.pointer gj) ∧
 (kLd d fs .i64 fun it =>
 (ck a ∧
 (∃ gk : OA, d.cell? ⟨a, 0, none⟩ = some (.pointer gk) ∧
 (ck a ∧
 (∃ gl : OA, d.cell? ⟨a, 0, none⟩ = some (.pointer gl) ∧
 (kNil gl fun gm =>
 (ck (gm.add 7).block ∧
 (kLd d (gm.add 7) .i64 fun iu =>
 (CP N_receiver_side_place #[(.pointer gj), (Iv it)] d fun g7 f8 =>
 ∃ ic : Int, g7 = .returned (Iv ic) ∧
 (KeepsB ck d f8 ∧ (CP N_receiver_side_place #[(.pointer gk), (Iv iu)] f8 fun g8 dx =>
 ∃ ft : Int, g8 = .returned (Iv ft) ∧
 (KeepsB ck d dx ∧ (bsplit (decide (ic ≥ ft))
 ((kDrew dx fun ap =>
 (∃ hw : Nat → Prop,
 (hw a ∧
 (∃ gn : OA, ap.cell? ⟨a, 0, none⟩ = some (.pointer gn) ∧
 (∃ go : OA, ap.cell? ⟨a, 0, none⟩ = some (.pointer go) ∧
 (kLd ap fs .i64 fun iv =>
 (CP N_receiver_side_behind #[(.pointer go), (Iv iv)] ap fun g9 f9 =>
 ∃ fu : Int, g9 = .returned (Iv fu) ∧
 (KeepsB hw ap f9 ∧ (kNil gn fun iw =>
 (kSet f9 (iw.add 7) (Iv fu) fun ij =>
 g5 ij)))))))))))
 (g5 dx))))))))))))))))))) ∧
 (bsplit (!hh)
 ((kDrew ao fun c =>
 (∃ ci : Nat → Prop,
 (ci a ∧
 (∃ gg : OA, c.cell? ⟨a, 0, none⟩ = some (.pointer gg) ∧
 (ci a ∧
 (∃ gh : OA, c.cell? ⟨a, 0, none⟩ = some (.pointer gh) ∧
 (kNil gh fun gi =>
 (ci (gi.add 13).block ∧
 (kLdS c (gi.add 13) fun hm ht hq =>
 (kLd c fs .i64 fun iq =>
 (KeepsB ci c c ∧ (kAlloc c #[(Iv iq), (.bool false), (Iv (-1 : Int)), (.slice none 0 0), (.slice none 0 0)] Ty_api_Partial fun i7 f5 =>
 (KeepsB ci c f5 ∧ (CP N_slices_Insert_Sapi_Partial_api_Partial #[(.slice hm ht hq), (Iv an), (.slice (some ⟨i7, 0, none⟩) 1 1)] f5 fun h8 f6 =>
 ∃ fw : OA, ∃ fy fx : Nat, h8 = .returned (.slice fw fy fx) ∧
 (KeepsB ci c f6 ∧ (kNil gg fun ir =>
 (kSet f6 (ir.add 13) (.slice fw fy fx) fun ii =>
 g4 ii))))))))))))))))))
 (g4 ao)))))))))))))))))))))) ∧
 (kDrew bt fun b =>
 (∃ cj : Nat → Prop,
 (cj h ∧
 (∃ ai aj ak al : Int, ∃ e : OA, ∃ g f : Nat, cellsAt b ⟨h, 0, none⟩ 0 [(Iv ai), (Iv aj), (Iv ak), (Iv al), (.slice e g f)] ∧
 (cj h ∧
 (kLd b ⟨h, 3, none⟩ .i64 fun jf =>
 (cj h ∧
 (kLdS b ⟨h, 4, none⟩ fun _ i4 _ =>
 (kW .i64 (jf + (i4 : Int)) fun hk =>
 (cj h ∧
 (kLd b ⟨h, 1, none⟩ .i64 fun i0 =>
 ((CP N_segment_Ends #[(Iv i0)] b fun h3 bu =>
 ∃ hg : Bool, h3 = .returned (.bool hg) ∧
 (KeepsB cj b bu ∧ ((KeepsB cj b bu ∧ (kAlloc bu #[Iv (0 : Int), Iv (0 : Int), Iv (0 : Int), Iv (0 : Int), .slice none 0 0, Iv (0 : Int), .bool false] Ty_receiver_piece fun hz f1 =>
 (KeepsB cj b f1 ∧ (sxStore f1 ⟨hz, 0, none⟩ 0 [(Iv ai), (Iv aj), (Iv ak), (Iv al), (.slice e g f), (Iv hk), (.bool hg)] fun ih =>
 i5 ⟨hz, 0, none⟩ ih)))) ∧
 ((kAlloc bu #[Iv (0 : Int), Iv (0 : Int), Iv (0 : Int), Iv (0 : Int), .slice none 0 0, Iv (0 : Int), .bool false] Ty_receiver_piece fun hy dv =>
 (KeepsB cj b dv ∧ (KeepsB cj b dv ∧ (sxStore dv ⟨hy, 0, none⟩ 0 [(Iv ai), (Iv aj), (Iv ak), (Iv al), (.slice e g f), (Iv hk), (.bool hg)] fun ie =>
 i5 ⟨hy, 0, none⟩ ie)))) ∧
 True)))) ∧
 ((kAlloc b #[Iv (0 : Int), Iv (0 : Int), Iv (0 : Int), Iv (0 : Int), .slice none 0 0, Iv (0 : Int), .bool false] Ty_receiver_piece fun hx f0 =>
 (KeepsB cj b f0 ∧ (CP N_segment_Ends #[(Iv i0)] f0 fun h2 du =>
 ∃ ia : Bool, h2 = .returned (.bool ia) ∧
 (KeepsB cj b du ∧ (KeepsB cj b du ∧ (sxStore du ⟨hx, 0, none⟩ 0 [(Iv ai), (Iv aj), (Iv ak), (Iv al), (.slice e g f), (Iv hk), (.bool ia)] fun id =>
 i5 ⟨hx, 0, none⟩ id)))))) ∧
 True))))))))))))))))))))))))))))))
theorem F_receiver_Receive_ok {R : EP} (r_0 r_1 r_2 r_3 r_4 r_5 r_6 r_7 r_8 r_9 r_10 r_11 : Int) (r_12 : Bool) (r_13_a : OA) (r_13_l r_13_c : Nat) (b_a : OA) (b_l b_c : Nat) (w : World) (h : F_receiver_Receive r_0 r_1 r_2 r_3 r_4 r_5 r_6 r_7 r_8 r_9 r_10 r_11 r_12 r_13_a r_13_l r_13_c b_a b_l b_c w fun v w' => R (.returned v) w') : CP N_receiver_Receive #[(.agg #[Iv r_0, Iv r_1, Iv r_2, Iv r_3, Iv r_4, Iv r_5, Iv r_6, Iv r_7, Iv r_8, Iv r_9, Iv r_10, Iv r_11, .bool r_12, .slice r_13_a r_13_l r_13_c]), (.slice b_a b_l b_c)] w R :=
 calls_of (k := TTk) (h := h_receiver_Receive) (f := 20) follows_ok Tryz.func20 (Eq.mpr (by kernel_rfl) h)

def h_receiver_Report : H := (.seq .reg (.seq .reg (.cut [] [5, 6, 16, 17, 18, 19, 20, 21, 22, 23, 24, 25, 26, 27, 28, 29, 30, 31, 32, 33, 34, 35, 36, 37, 38] (.block (.seq .reg (.cond (.seq .reg .leaf) (.cut [(21, .p .bool)] [21, 22, 23, 24, 25, 26, 27] .reg (.cond (.seq .reg .leaf) (.seq .reg (.cond (.seq .reg .leaf) .leaf))))))) (.seq (.seq .reg (.seq .reg (.cond (.seq .reg .leaf) .leaf))) (.seq .reg (.seq .reg (.seq (.draw .blk (.one 0 .pre (.one 1 .stable (.one 2 .stable (.one 3 .stable (.one 4 .stable (.one 5 .pre (.one 6 .pre (.one 7 .pre (.one 8 .keep (.one 9 .stable (.one 10 .stable (.one 11 .stable (.one 12 .last .nil)))))))))))))) (.seq .reg .leaf))))))))
def F_receiver_Report (r_0 r_1 r_2 r_3 r_4 r_5 r_6 r_7 r_8 r_9 r_10 r_11 : Int) (r_12 : Bool) (r_13_a : OA) (r_13_l r_13_c : Nat) (size : Int) (w : World) (R : Value → WP) : Prop :=
 (kAlloc w #[(Iv r_0), (Iv r_1), (Iv r_2), (Iv r_3), (Iv r_4), (Iv r_5), (Iv r_6), (Iv r_7), (Iv r_8), (Iv r_9), (Iv r_10), (Iv r_11), (.bool r_12), (.slice r_13_a r_13_l r_13_c)] Ty_api_Receiver fun d2 e4 =>
 (kAlloc e4 #[Iv (0 : Int), Iv (0 : Int), Iv (0 : Int), Iv (0 : Int), Iv (0 : Int), Iv (0 : Int), Iv (0 : Int), Iv (0 : Int), Iv (0 : Int), Iv (0 : Int), Iv (0 : Int), Iv (0 : Int), .bool false, .slice none 0 0] Ty_api_Receiver fun a ev =>
 (∃ ec ed ee ef eg eh ei ej ek el de df : Int, ∃ dg : Bool, ∃ ad : OA, ∃ af ae : Nat, cellsAt ev ⟨d2, 0, none⟩ 0 [(Iv ec), (Iv ed), (Iv ee), (Iv ef), (Iv eg), (Iv eh), (Iv ei), (Iv ej), (Iv ek), (Iv el), (Iv de), (Iv df), (.bool dg), (.slice ad af ae)] ∧
 (CP N_receiver_Status #[(.agg #[Iv ec, Iv ed, Iv ee, Iv ef, Iv eg, Iv eh, Iv ei, Iv ej, Iv ek, Iv el, Iv de, Iv df, .bool dg, .slice ad af ae])] ev fun e2 e5 =>
 ∃ bi : Int, ∃ a4 : OA, ∃ a6 a5 : Nat, ∃ e3 : Int, e2 = .returned (.tuple #[(.agg #[Iv bi, .slice a4 a6 a5]), (Iv e3)]) ∧
 (kAlloc e5 #[Iv (0 : Int), .slice none 0 0] Ty_api_Status fun d0 e6 =>
 (sxStore e6 ⟨d0, 0, none⟩ 0 [(Iv bi), (.slice a4 a6 a5)] fun eo =>
 (∃ ff : WP,
 (∀ (_ : Env)  (a7 : World), ff a7 →
 (kLd a7 ⟨d2, 0, none⟩ .i64 fun fb =>
 (∃ da : Int, ∃ bf : OA, ∃ bh bg : Nat, cellsAt a7 ⟨d0, 0, none⟩ 0 [(Iv da), (.slice bf bh bg)] ∧
 (CP N_status_Fit #[(Iv fb), (.agg #[Iv da, .slice bf bh bg]), (Iv size)] a7 fun ep et =>
 ∃ bn : Int, ∃ aa : OA, ∃ ac ab : Nat, ∃ en : Int, ep = .returned (.tuple #[(.agg #[Iv bn, .slice aa ac ab]), (Iv en)]) ∧
 (sxStore et ⟨d0, 0, none⟩ 0 [(Iv bn), (.slice aa ac ab)] fun a8 =>
 (bsplit (!decide (en = (0 : Int)))
 ((sxStore a8 ⟨a, 0, none⟩ 0 [(Iv (0 : Int)), (Iv (0 : Int)), (Iv (0 : Int)), (Iv (0 : Int)), (Iv (0 : Int)), (Iv (0 : Int)), (Iv (0 : Int)), (Iv (0 : Int)), (Iv (0 : Int)), (Iv (0 : Int)), (Iv (0 : Int)), (Iv (0 : Int)), (.bool false), (.slice none 0 0)] fun d7 =>
 (∃ bo bu b1 b7 cd cj cp cv c1 c7 ao aw : Int, ∃ a2 : Bool, ∃ f : OA, ∃ r l : Nat, cellsAt d7 ⟨a, 0, none⟩ 0 [(Iv bo), (Iv bu), (Iv b1), (Iv b7), (Iv cd), (Iv cj), (Iv cp), (Iv cv), (Iv c1), (Iv c7), (Iv ao), (Iv aw), (.bool a2), (.slice f r l)] ∧
 R (.tuple #[(.agg #[Iv bo, Iv bu, Iv b1, Iv b7, Iv cd, Iv cj, Iv cp, Iv cv, Iv c1, Iv c7, Iv ao, Iv aw, .bool a2, .slice f r l]), (.slice none 0 0), (Iv en)]) d7)))
 ((kLd a8 ⟨d2, 0, none⟩ .i64 fun fc =>
 (∃ db : Int, ∃ ag : OA, ∃ ai ah : Nat, cellsAt a8 ⟨d0, 0, none⟩ 0 [(Iv db), (.slice ag ai ah)] ∧
 (CP N_status_Encode #[(Iv fc), (.agg #[Iv db, .slice ag ai ah])] a8 fun eq d8 =>
 ∃ d3 : OA, ∃ d5 d4 : Nat, ∃ es : Int, eq = .returned (.tuple #[(.slice d3 d5 d4), (Iv es)]) ∧
 (∃ dc dh dj dl dn dq ds du dw dy a9 bb : Int, ∃ bd : Bool, ∃ t : OA, ∃ y v : Nat, cellsAt d8 ⟨d2, 0, none⟩ 0 [(Iv dc), (Iv dh), (Iv dj), (Iv dl), (Iv dn), (Iv dq), (Iv ds), (Iv du), (Iv dw), (Iv dy), (Iv a9), (Iv bb), (.bool bd), (.slice t y v)] ∧
 (CP N_receiver_begin #[(.agg #[Iv dc, Iv dh, Iv dj, Iv dl, Iv dn, Iv dq, Iv ds, Iv du, Iv dw, Iv dy, Iv a9, Iv bb, .bool bd, .slice t y v])] d8 fun er eu =>
 ∃ d1 : OA, er = .returned (.pointer d1) ∧
 (kDrew eu fun c9 =>
 (∃ fg : Nat → Prop,
 (fg d2 ∧
 (kLd c9 ⟨d2, 4, none⟩ .i64 fun fd =>
 (kNil d1 fun fe =>
 (kSet c9 (fe.add 12) (.bool false) fun d9 =>
 (KeepsB fg c9 d9 ∧ (kNil d1 fun ez =>
 (kSet d9 (ez.add 11) (Iv fd) fun ea =>
 (kNil d1 fun e0 =>
 (∃ dd di dk dm dp dr dt dv dx dz ba bc : Int, ∃ be : Bool, ∃ u : OA, ∃ z x : Nat, cellsAt ea e0 0 [(Iv dd), (Iv di), (Iv dk), (Iv dm), (Iv dp), (Iv dr), (Iv dt), (Iv dv), (Iv dx), (Iv dz), (Iv ba), (Iv bc), (.bool be), (.slice u z x)] ∧
 (sxStore ea ⟨a, 0, none⟩ 0 [(Iv dd), (Iv di), (Iv dk), (Iv dm), (Iv dp), (Iv dr), (Iv dt), (Iv dv), (Iv dx), (Iv dz), (Iv ba), (Iv bc), (.bool be), (.slice u z x)] fun eb =>
 (∃ bp bv b2 b8 ce ck cq cw c2 c8 ap ax : Int, ∃ a3 : Bool, ∃ g : OA, ∃ s m : Nat, cellsAt eb ⟨a, 0, none⟩ 0 [(Iv bp), (Iv bv), (Iv b2), (Iv b8), (Iv ce), (Iv ck), (Iv cq), (Iv cw), (Iv c2), (Iv c8), (Iv ap), (Iv ax), (.bool a3), (.slice g s m)] ∧
 R (.tuple #[(.agg #[Iv bp, Iv bv, Iv b2, Iv b8, Iv ce, Iv ck, Iv cq, Iv cw, Iv c2, Iv c8, Iv ap, Iv ax, .bool a3, .slice g s m]), (.slice d3 d5 d4), (Iv es)]) eb))))))))))))))))))))))))) ∧
 (kLet (!decide (e3 = (0 : Int))) fun fh =>
 (bsplit fh
 ((sxStore eo ⟨a, 0, none⟩ 0 [(Iv (0 : Int)), (Iv (0 : Int)), (Iv (0 : Int)), (Iv (0 : Int)), (Iv (0 : Int)), (Iv (0 : Int)), (Iv (0 : Int)), (Iv (0 : Int)), (Iv (0 : Int)), (Iv (0 : Int)), (Iv (0 : Int)), (Iv (0 : Int)), (.bool false), (.slice none 0 0)] fun ew =>
 (∃ bj bq bw b3 b9 cf cl cr cx c3 ak aq : Int, ∃ ay : Bool, ∃ b : OA, ∃ n h : Nat, cellsAt ew ⟨a, 0, none⟩ 0 [(Iv bj), (Iv bq), (Iv bw), (Iv b3), (Iv b9), (Iv cf), (Iv cl), (Iv cr), (Iv cx), (Iv c3), (Iv ak), (Iv aq), (.bool ay), (.slice b n h)] ∧
 R (.tuple #[(.agg #[Iv bj, Iv bq, Iv bw, Iv b3, Iv b9, Iv cf, Iv cl, Iv cr, Iv cx, Iv c3, Iv ak, Iv aq, .bool ay, .slice b n h]), (.slice none 0 0), (Iv e3)]) ew)))
 ((∃ em : Bool → WP,
 (∀ (_ : Env) (e1 : Bool) (aj : World), em e1 aj →
 (bsplit e1
 ((sxStore aj ⟨a, 0, none⟩ 0 [(Iv (0 : Int)), (Iv (0 : Int)), (Iv (0 : Int)), (Iv (0 : Int)), (Iv (0 : Int)), (Iv (0 : Int)), (Iv (0 : Int)), (Iv (0 : Int)), (Iv (0 : Int)), (Iv (0 : Int)), (Iv (0 : Int)), (Iv (0 : Int)), (.bool false), (.slice none 0 0)] fun ex =>
 (∃ bk br bx b4 ca cg cm cs cy c4 al ar : Int, ∃ az : Bool, ∃ c : OA, ∃ o i : Nat, cellsAt ex ⟨a, 0, none⟩ 0 [(Iv bk), (Iv br), (Iv bx), (Iv b4), (Iv ca), (Iv cg), (Iv cm), (Iv cs), (Iv cy), (Iv c4), (Iv al), (Iv ar), (.bool az), (.slice c o i)] ∧
 R (.tuple #[(.agg #[Iv bk, Iv br, Iv bx, Iv b4, Iv ca, Iv cg, Iv cm, Iv cs, Iv cy, Iv c4, Iv al, Iv ar, .bool az, .slice c o i]), (.slice none 0 0), (Iv (3 : Int))]) ex)))
 ((kLdB aj ⟨d2, 12, none⟩ fun e8 =>
 (bsplit (!e8)
 ((sxStore aj ⟨a, 0, none⟩ 0 [(Iv (0 : Int)), (Iv (0 : Int)), (Iv (0 : Int)), (Iv (0 : Int)), (Iv (0 : Int)), (Iv (0 : Int)), (Iv (0 : Int)), (Iv (0 : Int)), (Iv (0 : Int)), (Iv (0 : Int)), (Iv (0 : Int)), (Iv (0 : Int)), (.bool false), (.slice none 0 0)] fun ey =>
 (∃ bl bs bz b5 cb ch cn ct cz c5 am au : Int, ∃ a0 : Bool, ∃ d : OA, ∃ p j : Nat, cellsAt ey ⟨a, 0, none⟩ 0 [(Iv bl), (Iv bs), (Iv bz), (Iv b5), (Iv cb), (Iv ch), (Iv cn), (Iv ct), (Iv cz), (Iv c5), (Iv am), (Iv au), (.bool a0), (.slice d p j)] ∧
 R (.tuple #[(.agg #[Iv bl, Iv bs, Iv bz, Iv b5, Iv cb, Iv ch, Iv cn, Iv ct, Iv cz, Iv c5, Iv am, Iv au, .bool a0, .slice d p j]), (.slice none 0 0), (Iv (14 : Int))]) ey)))
 ((kLd aj ⟨d2, 11, none⟩ .i64 fun e9 =>
 (kLet (decide (e9 > (0 : Int))) fun fa =>
 (bsplit fa
 ((sxStore aj ⟨a, 0, none⟩ 0 [(Iv (0 : Int)), (Iv (0 : Int)), (Iv (0 : Int)), (Iv (0 : Int)), (Iv (0 : Int)), (Iv (0 : Int)), (Iv (0 : Int)), (Iv (0 : Int)), (Iv (0 : Int)), (Iv (0 : Int)), (Iv (0 : Int)), (Iv (0 : Int)), (.bool false), (.slice none 0 0)] fun d6 =>
 (∃ bm bt b0 b6 cc ci co cu c0 c6 an av : Int, ∃ a1 : Bool, ∃ e : OA, ∃ q k : Nat, cellsAt d6 ⟨a, 0, none⟩ 0 [(Iv bm), (Iv bt), (Iv b0), (Iv b6), (Iv cc), (Iv ci), (Iv co), (Iv cu), (Iv c0), (Iv c6), (Iv an), (Iv av), (.bool a1), (.slice e q k)] ∧
 R (.tuple #[(.agg #[Iv bm, Iv bt, Iv b0, Iv b6, Iv cc, Iv ci, Iv co, Iv cu, Iv c0, Iv c6, Iv an, Iv av, .bool a1, .slice e q k]), (.slice none 0 0), (Iv (14 : Int))]) d6)))
 (ff aj)))))))))) ∧
 (bsplit (decide (size < (0 : Int)))
 (em true eo)
 ((kLet (decide (size > (4096 : Int))) fun e7 =>
 em e7 eo))))))))))))))
theorem F_receiver_Report_ok {R : EP} (r_0 r_1 r_2 r_3 r_4 r_5 r_6 r_7 r_8 r_9 r_10 r_11 : Int) (r_12 : Bool) (r_13_a : OA) (r_13_l r_13_c : Nat) (size : Int) (w : World) (h : F_receiver_Report r_0 r_1 r_2 r_3 r_4 r_5 r_6 r_7 r_8 r_9 r_10 r_11 r_12 r_13_a r_13_l r_13_c size w fun v w' => R (.returned v) w') : CP N_receiver_Report #[(.agg #[Iv r_0, Iv r_1, Iv r_2, Iv r_3, Iv r_4, Iv r_5, Iv r_6, Iv r_7, Iv r_8, Iv r_9, Iv r_10, Iv r_11, .bool r_12, .slice r_13_a r_13_l r_13_c]), (Iv size)] w R :=
 calls_of (k := TTk) (h := h_receiver_Report) (f := 21) follows_ok Tryz.func21 (Eq.mpr (by kernel_rfl) h)

def h_ref19_Decode : H := (.seq .reg (.seq (.seq .reg (.cond (.seq .reg .leaf) .leaf)) (.seq (.seq .reg (.cond (.seq .reg .leaf) .leaf)) (.seq .reg (.seq .reg (.seq (.seq .reg (.block (.loop [(7, .p (.int .i64)), (8, .p (.int .i64))] [5, 7, 8, 9, 10, 28, 29, 30, 31, 32, 33, 34, 35, 36, 37, 38, 39, 40, 41, 42, 43, 44, 45, 46, 47, 48, 49, 50, 51, 52, 53, 54, 55, 56, 57, 58, 59, 60, 61, 62, 63, 64, 65, 66, 67, 68, 69, 70, 71] (.seq (.seq .reg (.cond .leaf .leaf)) (.seq (.block (.seq (.seq .reg (.cond (.seq .reg .leaf) .leaf)) (.seq .reg (.seq .reg (.seq .reg (.seq (.seq .reg (.cond (.seq (.seq .reg (.cond (.seq .reg .leaf) .leaf)) (.seq .reg .reg)) .leaf)) .reg)))))) .reg))))) (.seq .reg (.seq (.seq .reg (.cond (.seq .reg .leaf) .leaf)) (.seq .reg .leaf)))))))))
def F_ref19_Decode (bits : Int) (b_a : OA) (b_l b_c : Nat) (w : World) (R : Value → WP) : Prop :=
 (kAlloc w #[Iv (0 : Int), .slice none 0 0] Ty_api_Status fun z co =>
 (CP N_ref15_Bits #[(Iv bits)] co fun cn bd =>
 ∃ cx : Bool, cn = .returned (.bool cx) ∧
 (bsplit (!cx)
 ((sxStore bd ⟨z, 0, none⟩ 0 [(Iv (0 : Int)), (.slice none 0 0)] fun cb =>
 (∃ az : Int, ∃ aa : OA, ∃ ac ab : Nat, cellsAt cb ⟨z, 0, none⟩ 0 [(Iv az), (.slice aa ac ab)] ∧
 R (.tuple #[(.agg #[Iv az, .slice aa ac ab]), (Iv (3 : Int))]) cb)))
 ((bsplit (decide ((b_l : Int) < (3 : Int)))
 ((sxStore bd ⟨z, 0, none⟩ 0 [(Iv (0 : Int)), (.slice none 0 0)] fun cc =>
 (∃ ai : Int, ∃ b : OA, ∃ n h : Nat, cellsAt cc ⟨z, 0, none⟩ 0 [(Iv ai), (.slice b n h)] ∧
 R (.tuple #[(.agg #[Iv ai, .slice b n h]), (Iv (5 : Int))]) cc)))
 ((CP N_ref01_Get #[(.slice b_a b_l b_c), (Iv (0 : Int)), (Iv (2 : Int))] bd fun bo cp =>
 ∃ bu : Int, bo = .returned (Iv bu) ∧
 (kAlloc cp #[Iv (0 : Int), .slice none 0 0] Ty_api_Status fun y cq =>
 (sxStore cq ⟨y, 0, none⟩ 0 [(Iv bu), (.slice none 0 0)] fun cd =>
 (kIx b_a b_l (2 : Int) fun ck =>
 (kLd cd (ck.add ((2 : Int).toNat * 1)) .u8 fun cy =>
 (kW .i64 (cy) fun cr =>
 (∃ ay : Int → Int → Nat × (WP), (ay (3 : Int) cr).2 cd ∧
 (∀ (_ : Env) (a : Int) (bn : Int) (aq : World), (ay a bn).2 aq →
 (bsplit (decide (bn > (0 : Int)))
 ((kW .i64 (a + (2 : Int)) fun cs =>
 (bsplit (decide ((b_l : Int) < cs))
 ((sxStore aq ⟨z, 0, none⟩ 0 [(Iv (0 : Int)), (.slice none 0 0)] fun ce =>
 (∃ aj : Int, ∃ c : OA, ∃ o i : Nat, cellsAt ce ⟨z, 0, none⟩ 0 [(Iv aj), (.slice c o i)] ∧
 R (.tuple #[(.agg #[Iv aj, .slice c o i]), (Iv (5 : Int))]) ce)))
 ((CP N_ref01_Get #[(.slice b_a b_l b_c), (Iv a), (Iv (2 : Int))] aq fun bp b0 =>
 ∃ bc : Int, bp = .returned (Iv bc) ∧
 (kLet (Int.fdiv bc (2 ^ 4)) fun ct =>
 (kAlloc b0 #[Iv (0 : Int), Iv (0 : Int), Iv (0 : Int)] Ty_api_Range fun ah b1 =>
 (sxStore b1 ⟨ah, 0, none⟩ 0 [(Iv ct), (Iv (0 : Int)), (Iv (0 : Int))] fun t =>
 (kW .i64 (a + (2 : Int)) fun ag =>
 (kLet (bAnd .i64 bc (15 : Int)) fun cu =>
 (bsplit (decide (cu = (1 : Int)))
 ((kW .i64 (ag + (4 : Int)) fun cv =>
 (bsplit (decide ((b_l : Int) < cv))
 ((sxStore t ⟨z, 0, none⟩ 0 [(Iv (0 : Int)), (.slice none 0 0)] fun a3 =>
 (∃ ak : Int, ∃ d : OA, ∃ p j : Nat, cellsAt a3 ⟨z, 0, none⟩ 0 [(Iv ak), (.slice d p j)] ∧
 R (.tuple #[(.agg #[Iv ak, .slice d p j]), (Iv (5 : Int))]) a3)))
 ((CP N_ref01_Get #[(.slice b_a b_l b_c), (Iv ag), (Iv (2 : Int))] t fun bq b2 =>
 ∃ bv : Int, bq = .returned (Iv bv) ∧
 (kW .i64 (ag + (2 : Int)) fun cw =>
 (CP N_ref01_Get #[(.slice b_a b_l b_c), (Iv cw), (Iv (2 : Int))] b2 fun br b3 =>
 ∃ bw : Int, br = .returned (Iv bw) ∧
 (kSet b3 ⟨ah, 1, none⟩ (Iv bv) fun b4 =>
 (kSet b4 ⟨ah, 2, none⟩ (Iv bw) fun ao =>
 (kW .i64 (ag + (4 : Int)) fun cf =>
 (kLdS ao ⟨y, 1, none⟩ fun ch cj ci =>
 (∃ a9 ba bb : Int, cellsAt ao ⟨ah, 0, none⟩ 0 [(Iv a9), (Iv ba), (Iv bb)] ∧
 (kAlloc ao #[(Iv a9), (Iv ba), (Iv bb)] Ty_api_Range fun cl b5 =>
 (AppP Tryz.prog #[Ty_S_api_Range, Ty_S_api_Range] Ty_S_api_Range #[(.slice ch cj ci), (.slice (some ⟨cl, 0, none⟩) 1 1)] b5 fun be bk bh b6 =>
 (kSet b6 ⟨y, 1, none⟩ (.slice be bk bh) fun b7 =>
 (kW .i64 (bn - (1 : Int)) fun cg =>
 ((ay cf cg).2 b7 ∧ (ay cf cg).1 < (ay a bn).1)))))))))))))))))
 ((kLdS t ⟨y, 1, none⟩ fun bf bl bi =>
 (∃ ar aw ax : Int, cellsAt t ⟨ah, 0, none⟩ 0 [(Iv ar), (Iv aw), (Iv ax)] ∧
 (kAlloc t #[(Iv ar), (Iv aw), (Iv ax)] Ty_api_Range fun cm b8 =>
 (AppP Tryz.prog #[Ty_S_api_Range, Ty_S_api_Range] Ty_S_api_Range #[(.slice bf bl bi), (.slice (some ⟨cm, 0, none⟩) 1 1)] b8 fun bg bm bj b9 =>
 (kSet b9 ⟨y, 1, none⟩ (.slice bg bm bj) fun ca =>
 (kW .i64 (bn - (1 : Int)) fun a8 =>
 ((ay ag a8).2 ca ∧ (ay ag a8).1 < (ay a bn).1)))))))))))))))))))
 ((∃ au : Int, ∃ ad : OA, ∃ af ae : Nat, cellsAt aq ⟨y, 0, none⟩ 0 [(Iv au), (.slice ad af ae)] ∧
 (CP N_ref19_Encode #[(Iv bits), (.agg #[Iv au, .slice ad af ae])] aq fun bs a4 =>
 ∃ a0 : OA, ∃ a2 a1 : Nat, ∃ bx : Int, bs = .returned (.tuple #[(.slice a0 a2 a1), (Iv bx)]) ∧
 (bsplit (!decide (bx = (0 : Int)))
 ((sxStore a4 ⟨z, 0, none⟩ 0 [(Iv (0 : Int)), (.slice none 0 0)] fun a5 =>
 (∃ al : Int, ∃ e : OA, ∃ q k : Nat, cellsAt a5 ⟨z, 0, none⟩ 0 [(Iv al), (.slice e q k)] ∧
 R (.tuple #[(.agg #[Iv al, .slice e q k]), (Iv (4 : Int))]) a5)))
 ((CP N_ref01_Same #[(.slice b_a b_l b_c), (.slice a0 a2 a1)] a4 fun bt ap =>
 ∃ bz : Bool, bt = .returned (.bool bz) ∧
 (bsplit (!bz)
 ((sxStore ap ⟨z, 0, none⟩ 0 [(Iv (0 : Int)), (.slice none 0 0)] fun a6 =>
 (∃ am : Int, ∃ f : OA, ∃ r l : Nat, cellsAt a6 ⟨z, 0, none⟩ 0 [(Iv am), (.slice f r l)] ∧
 R (.tuple #[(.agg #[Iv am, .slice f r l]), (Iv (4 : Int))]) a6)))
 ((∃ av : Int, ∃ u : OA, ∃ x v : Nat, cellsAt ap ⟨y, 0, none⟩ 0 [(Iv av), (.slice u x v)] ∧
 (sxStore ap ⟨z, 0, none⟩ 0 [(Iv av), (.slice u x v)] fun a7 =>
 (∃ an : Int, ∃ g : OA, ∃ s m : Nat, cellsAt a7 ⟨z, 0, none⟩ 0 [(Iv an), (.slice g s m)] ∧
 R (.tuple #[(.agg #[Iv an, .slice g s m]), (Iv (0 : Int))]) a7))))))))))))))))))))))))))
def h_ref21_Status : H := (.seq .reg (.seq (.seq .reg (.cond (.seq .reg .leaf) .leaf)) (.seq .reg (.seq .reg (.seq (.seq .reg (.block (.loop [(5, .p (.int .i64)), (6, .p (.int .i64))] [5, 6, 7, 8, 9, 10, 18, 19, 20, 21, 22, 23, 24, 25, 26, 27, 28, 29, 30, 31, 32, 33, 34, 35, 36, 37, 38, 39, 40, 41, 42, 43, 44, 45, 46, 47, 48, 49, 50, 51, 52, 53, 54, 55, 56, 57, 58, 59, 60, 61, 62, 63, 64, 65, 66, 67, 68, 69, 70, 71, 72, 73, 74, 75, 76, 77, 78, 79, 80, 81, 82, 83, 84, 85, 86] (.seq (.seq .reg (.cond .leaf .leaf)) (.seq (.block (.seq .reg (.seq .reg (.cut [(5, .p (.int .i64)), (8, .p .slice)] [5, 8, 9, 10, 37, 38, 39, 40, 41, 42, 43, 44, 45, 46, 47, 48, 49, 50, 51, 52, 53, 54, 55, 56, 57, 58, 59, 60, 61, 62, 63, 64, 65, 66, 67, 68, 69, 70, 71, 72] (.cut [(51, .p .bool)] [37, 38, 39, 40, 41, 42, 43, 44, 45, 46, 47, 48, 49, 50, 51] .reg (.cond (.seq .reg (.seq .reg (.seq (.seq .reg (.cond .leaf .leaf)) (.seq .reg (.seq (.seq .reg (.cond .reg .leaf)) .reg))))) .leaf)) (.seq (.seq .reg (.cond (.seq .reg .leaf) .leaf)) .reg))))) .reg))))) (.seq .reg .leaf))))))
def F_ref21_Status (r_0 r_1 r_2 r_3 r_4 r_5 r_6 r_7 r_8 r_9 r_10 r_11 : Int) (r_12 : Bool) (r_13_a : OA) (r_13_l r_13_c : Nat) (w : World) (R : Value → WP) : Prop :=
 (kAlloc w #[(Iv r_0), (Iv r_1), (Iv r_2), (Iv r_3), (Iv r_4), (Iv r_5), (Iv r_6), (Iv r_7), (Iv r_8), (Iv r_9), (Iv r_10), (Iv r_11), (.bool r_12), (.slice r_13_a r_13_l r_13_c)] Ty_api_Receiver fun bi dd =>
 (kAlloc dd #[Iv (0 : Int), .slice none 0 0] Ty_api_Status fun an cz =>
 (∃ bu bv bw bx bz b0 b1 b2 b3 b4 a3 a4 : Int, ∃ a5 : Bool, ∃ q : OA, ∃ s r : Nat, cellsAt cz ⟨bi, 0, none⟩ 0 [(Iv bu), (Iv bv), (Iv bw), (Iv bx), (Iv bz), (Iv b0), (Iv b1), (Iv b2), (Iv b3), (Iv b4), (Iv a3), (Iv a4), (.bool a5), (.slice q s r)] ∧
 (CP N_ref21_Valid #[(.agg #[Iv bu, Iv bv, Iv bw, Iv bx, Iv bz, Iv b0, Iv b1, Iv b2, Iv b3, Iv b4, Iv a3, Iv a4, .bool a5, .slice q s r])] cz fun da b8 =>
 ∃ dn : Bool, da = .returned (.bool dn) ∧
 (bsplit (!dn)
 ((sxStore b8 ⟨an, 0, none⟩ 0 [(Iv (0 : Int)), (.slice none 0 0)] fun c1 =>
 (∃ aq : Int, ∃ y : OA, ∃ aa z : Nat, cellsAt c1 ⟨an, 0, none⟩ 0 [(Iv aq), (.slice y aa z)] ∧
 R (.tuple #[(.agg #[Iv aq, .slice y aa z]), (Iv (1 : Int))]) c1)))
 ((kLd b8 ⟨bi, 8, none⟩ .i64 fun dp =>
 (kAlloc b8 #[Iv (0 : Int), .slice none 0 0] Ty_api_Status fun x de =>
 (sxStore de ⟨x, 0, none⟩ 0 [(Iv dp), (.slice none 0 0)] fun df =>
 (∃ bl : Int → Int → Nat × (WP), (bl (0 : Int) (0 : Int)).2 df ∧
 (∀ (_ : Env) (bh : Int) (b6 : Int) (bj : World), (bl bh b6).2 bj →
 (∃ az a6 a8 ba bb bc bd be bf bg ab ac : Int, ∃ ad : Bool, ∃ c : OA, ∃ e d : Nat, cellsAt bj ⟨bi, 0, none⟩ 0 [(Iv az), (Iv a6), (Iv a8), (Iv ba), (Iv bb), (Iv bc), (Iv bd), (Iv be), (Iv bf), (Iv bg), (Iv ab), (Iv ac), (.bool ad), (.slice c e d)] ∧
 (kLd bj ⟨bi, 8, none⟩ .i64 fun dh =>
 (CP N_ref21_place #[(.agg #[Iv az, Iv a6, Iv a8, Iv ba, Iv bb, Iv bc, Iv bd, Iv be, Iv bf, Iv bg, Iv ab, Iv ac, .bool ad, .slice c e d]), (Iv dh)] bj fun cq ay =>
 ∃ cu : Int, cq = .returned (Iv cu) ∧
 (bsplit (decide (b6 < cu))
 ((kLd ay ⟨bi, 0, none⟩ .i64 fun di =>
 (kLd ay ⟨bi, 6, none⟩ .i64 fun dj =>
 (kW .i64 (dj + b6) fun dk =>
 (CP N_ref02_Low #[(Iv di), (Iv dk)] ay fun cr dg =>
 ∃ ao : Int, cr = .returned (Iv ao) ∧
 (kAlloc dg #[(Iv ao), (Iv (0 : Int)), (Iv (0 : Int))] Ty_api_Range fun c7 n =>
 (∃ c6 : Int → OA → Nat → Nat → WP,
 (∀ (_ : Env) (b7 : Int) (f : OA) (a : Nat) (g : Nat) (p : World), c6 b7 f a g p →
 (kLdS p ⟨x, 1, none⟩ fun _ cn _ =>
 (kW .i64 ((cn : Int) + (a : Int)) fun c2 =>
 (bsplit (decide (c2 > (64 : Int)))
 ((kSet p ⟨x, 0, none⟩ (Iv ao) fun bp =>
 (∃ a1 : Int, ∃ ae : OA, ∃ ag af : Nat, cellsAt bp ⟨x, 0, none⟩ 0 [(Iv a1), (.slice ae ag af)] ∧
 (sxStore bp ⟨an, 0, none⟩ 0 [(Iv a1), (.slice ae ag af)] fun bq =>
 (∃ ar : Int, ∃ h : OA, ∃ l j : Nat, cellsAt bq ⟨an, 0, none⟩ 0 [(Iv ar), (.slice h l j)] ∧
 R (.tuple #[(.agg #[Iv ar, .slice h l j]), (Iv (0 : Int))]) bq)))))
 ((kLdS p ⟨x, 1, none⟩ fun cd co ch =>
 (AppP Tryz.prog #[Ty_S_api_Range, Ty_S_api_Range] Ty_S_api_Range #[(.slice cd co ch), (.slice f a g)] p fun ce cp ci cy =>
 (kSet cy ⟨x, 1, none⟩ (.slice ce cp ci) fun c0 =>
 (kW .i64 (b6 + (1 : Int)) fun bt =>
 ((bl b7 bt).2 c0 ∧ (bl b7 bt).1 < (bl bh b6).1)))))))))) ∧
 (∃ b5 : Bool → WP,
 (∀ (_ : Env) (c3 : Bool) (o : World), b5 c3 o →
 (bsplit c3
 ((kLdS o ⟨bi, 13, none⟩ fun ca ck _ =>
 (kIx ca ck bh fun c9 =>
 (∃ a0 : Int, ∃ a7 : Bool, ∃ a9 : Int, ∃ ah : OA, ∃ aj ai : Nat, ∃ ak : OA, ∃ am al : Nat, cellsAt o (c9.add (bh.toNat * 5)) 0 [(Iv a0), (.bool a7), (Iv a9), (.slice ah aj ai), (.slice ak am al)] ∧
 (kAlloc o #[Iv (0 : Int), .bool false, Iv (0 : Int), .slice none 0 0, .slice none 0 0] Ty_api_Partial fun ap cv =>
 (sxStore cv ⟨ap, 0, none⟩ 0 [(Iv a0), (.bool a7), (Iv a9), (.slice ah aj ai), (.slice ak am al)] fun b =>
 (kW .i64 (bh + (1 : Int)) fun bk =>
 (kLdB b ⟨ap, 1, none⟩ fun dm =>
 (bsplit dm
 ((kW .i64 (b6 + (1 : Int)) fun c4 =>
 ((bl bk c4).2 b ∧ (bl bk c4).1 < (bl bh b6).1)))
 ((kLd b ⟨ap, 2, none⟩ .i64 fun bs =>
 (bsplit (decide (bs = (-1 : Int)))
 ((kLdS b ⟨ap, 4, none⟩ fun cb cl cf =>
 (CP N_ref18_Gaps #[(.slice cb cl cf), (Iv ao), (Iv (65535 : Int))] b fun cs cw =>
 ∃ bm : OA, ∃ bo bn : Nat, ∃ db : Int, cs = .returned (.tuple #[(.slice bm bo bn), (Iv db)]) ∧
 c6 bk bm bo bn cw)))
 ((kLdS b ⟨ap, 4, none⟩ fun cc cm cg =>
 (CP N_ref18_Gaps #[(.slice cc cm cg), (Iv ao), (Iv bs)] b fun ct cx =>
 ∃ av : OA, ∃ ax aw : Nat, ∃ dc : Int, ct = .returned (.tuple #[(.slice av ax aw), (Iv dc)]) ∧
 c6 bk av ax aw cx)))))))))))))))
 (c6 bh (some ⟨c7, 0, none⟩) 1 1 o))) ∧
 (kLdS n ⟨bi, 13, none⟩ fun _ c5 _ =>
 (bsplit (decide (bh < (c5 : Int)))
 ((kLdS n ⟨bi, 13, none⟩ fun b9 cj _ =>
 (kIx b9 cj bh fun c8 =>
 (kLd n (c8.add (bh.toNat * 5)) .i64 fun dl =>
 b5 (decide (dl = ao)) n))))
 (b5 false n)))))))))))
 ((∃ a2 : Int, ∃ t : OA, ∃ v u : Nat, cellsAt ay ⟨x, 0, none⟩ 0 [(Iv a2), (.slice t v u)] ∧
 (sxStore ay ⟨an, 0, none⟩ 0 [(Iv a2), (.slice t v u)] fun br =>
 (∃ au : Int, ∃ i : OA, ∃ m k : Nat, cellsAt br ⟨an, 0, none⟩ 0 [(Iv au), (.slice i m k)] ∧
 R (.tuple #[(.agg #[Iv au, .slice i m k]), (Iv (0 : Int))]) br)))))))))))))))))))
theorem F_ref21_Status_ok {R : EP} (r_0 r_1 r_2 r_3 r_4 r_5 r_6 r_7 r_8 r_9 r_10 r_11 : Int) (r_12 : Bool) (r_13_a : OA) (r_13_l r_13_c : Nat) (w : World) (h : F_ref21_Status r_0 r_1 r_2 r_3 r_4 r_5 r_6 r_7 r_8 r_9 r_10 r_11 r_12 r_13_a r_13_l r_13_c w fun v w' => R (.returned v) w') : CP N_ref21_Status #[(.agg #[Iv r_0, Iv r_1, Iv r_2, Iv r_3, Iv r_4, Iv r_5, Iv r_6, Iv r_7, Iv r_8, Iv r_9, Iv r_10, Iv r_11, .bool r_12, .slice r_13_a r_13_l r_13_c])] w R :=
 calls_of (k := TTk) (h := h_ref21_Status) (f := 23) follows_ok Tryz.func23 (Eq.mpr (by kernel_rfl) h)

def h_ref19_Same : H := (.seq .reg (.seq .reg .leaf))
def F_ref19_Same (a_0 : Int) (a_1_a : OA) (a_1_l a_1_c : Nat) (b_0 : Int) (b_1_a : OA) (b_1_l b_1_c : Nat) (w : World) (R : Value → WP) : Prop :=
 (kAlloc w #[(Iv a_0), (.slice a_1_a a_1_l a_1_c)] Ty_api_Status fun m j =>
 (kAlloc j #[(Iv b_0), (.slice b_1_a b_1_l b_1_c)] Ty_api_Status fun e a =>
 (kLd a ⟨m, 0, none⟩ .i64 fun o =>
 (kLd a ⟨e, 0, none⟩ .i64 fun l =>
 (bsplit (decide (o = l))
 ((kLdS a ⟨m, 1, none⟩ fun f h g =>
 (kLdS a ⟨e, 1, none⟩ fun b d c =>
 (CP N_ref18_SameRanges #[(.slice f h g), (.slice b d c)] a fun i k =>
 ∃ n : Bool, i = .returned (.bool n) ∧
 R (.bool n) k))))
 (R (.bool false) a))))))
theorem F_ref19_Same_ok {R : EP} (a_0 : Int) (a_1_a : OA) (a_1_l a_1_c : Nat) (b_0 : Int) (b_1_a : OA) (b_1_l b_1_c : Nat) (w : World) (h : F_ref19_Same a_0 a_1_a a_1_l a_1_c b_0 b_1_a b_1_l b_1_c w fun v w' => R (.returned v) w') : CP N_ref19_Same #[(.agg #[Iv a_0, .slice a_1_a a_1_l a_1_c]), (.agg #[Iv b_0, .slice b_1_a b_1_l b_1_c])] w R :=
 calls_of (k := TTk) (h := h_ref19_Same) (f := 24) follows_ok Tryz.func24 (Eq.mpr (by kernel_rfl) h)

def h_receiver_Tick : H := (.seq .reg (.seq (.seq .reg (.cond (.seq .reg .leaf) .leaf)) (.seq .reg (.seq .reg (.seq (.seq .reg (.cond (.seq .reg .leaf) .leaf)) (.cut [] [32, 33, 34, 35, 36, 37, 38, 39, 40, 41, 42, 43, 44, 45, 46, 47, 48, 49, 50, 51, 52, 53, 54, 55, 56, 57, 58, 59, 60, 61, 62, 63, 64, 65, 66, 67, 68, 69, 70, 71, 72, 73, 74, 75, 76, 77, 78, 79, 80] (.seq .reg (.seq .reg (.cond (.seq (.seq (.draw .blk (.one 0 .pre (.one 1 .pre (.one 2 .pre (.one 3 .pre (.one 4 .pre (.one 5 .pre (.one 7 .stable (.one 8 .stable (.one 9 .stable (.one 10 .stable (.one 11 .stable (.one 12 .stable (.one 6 .keep (.one 13 .keep (.one 14 .stable .nil)))))))))))))))) (.cond .reg .leaf)) (.seq .reg .reg)) .leaf))) (.seq .reg .leaf)))))))
def F_receiver_Tick (r_0 r_1 r_2 r_3 r_4 r_5 r_6 r_7 r_8 r_9 r_10 r_11 : Int) (r_12 : Bool) (r_13_a : OA) (r_13_l r_13_c : Nat) (w : World) (R : Value → WP) : Prop :=
 (kAlloc w #[(Iv r_0), (Iv r_1), (Iv r_2), (Iv r_3), (Iv r_4), (Iv r_5), (Iv r_6), (Iv r_7), (Iv r_8), (Iv r_9), (Iv r_10), (Iv r_11), (.bool r_12), (.slice r_13_a r_13_l r_13_c)] Ty_api_Receiver fun ed d4 =>
 (kAlloc d4 #[Iv (0 : Int), Iv (0 : Int), Iv (0 : Int), Iv (0 : Int), Iv (0 : Int), Iv (0 : Int), Iv (0 : Int), Iv (0 : Int), Iv (0 : Int), Iv (0 : Int), Iv (0 : Int), Iv (0 : Int), .bool false, .slice none 0 0] Ty_api_Receiver fun aq dh =>
 (∃ cr cs ct cu cv cw cx cy cz c0 bt bu : Int, ∃ bv : Bool, ∃ t : OA, ∃ v u : Nat, cellsAt dh ⟨ed, 0, none⟩ 0 [(Iv cr), (Iv cs), (Iv ct), (Iv cu), (Iv cv), (Iv cw), (Iv cx), (Iv cy), (Iv cz), (Iv c0), (Iv bt), (Iv bu), (.bool bv), (.slice t v u)] ∧
 (CP N_receiver_Valid #[(.agg #[Iv cr, Iv cs, Iv ct, Iv cu, Iv cv, Iv cw, Iv cx, Iv cy, Iv cz, Iv c0, Iv bt, Iv bu, .bool bv, .slice t v u])] dh fun d3 c1 =>
 ∃ ee : Bool, d3 = .returned (.bool ee) ∧
 (bsplit (!ee)
 ((sxStore c1 ⟨aq, 0, none⟩ 0 [(Iv (0 : Int)), (Iv (0 : Int)), (Iv (0 : Int)), (Iv (0 : Int)), (Iv (0 : Int)), (Iv (0 : Int)), (Iv (0 : Int)), (Iv (0 : Int)), (Iv (0 : Int)), (Iv (0 : Int)), (Iv (0 : Int)), (Iv (0 : Int)), (.bool false), (.slice none 0 0)] fun di =>
 (∃ ar aw az a2 a5 a8 bb be bh bk x aa : Int, ∃ ad : Bool, ∃ b : OA, ∃ h e : Nat, cellsAt di ⟨aq, 0, none⟩ 0 [(Iv ar), (Iv aw), (Iv az), (Iv a2), (Iv a5), (Iv a8), (Iv bb), (Iv be), (Iv bh), (Iv bk), (Iv x), (Iv aa), (.bool ad), (.slice b h e)] ∧
 R (.tuple #[(.agg #[Iv ar, Iv aw, Iv az, Iv a2, Iv a5, Iv a8, Iv bb, Iv be, Iv bh, Iv bk, Iv x, Iv aa, .bool ad, .slice b h e]), (Iv (1 : Int))]) di)))
 ((∃ bq bw b0 b3 b6 b9 cc cf ci cl ah ak : Int, ∃ an : Bool, ∃ k : OA, ∃ q n : Nat, cellsAt c1 ⟨ed, 0, none⟩ 0 [(Iv bq), (Iv bw), (Iv b0), (Iv b3), (Iv b6), (Iv b9), (Iv cc), (Iv cf), (Iv ci), (Iv cl), (Iv ah), (Iv ak), (.bool an), (.slice k q n)] ∧
 (CP N_receiver_begin #[(.agg #[Iv bq, Iv bw, Iv b0, Iv b3, Iv b6, Iv b9, Iv cc, Iv cf, Iv ci, Iv cl, Iv ah, Iv ak, .bool an, .slice k q n])] c1 fun c3 dj =>
 ∃ a : OA, c3 = .returned (.pointer a) ∧
 (kNil a fun ef =>
 (kLd dj (ef.add 11) .i64 fun d5 =>
 (kW .i64 (d5 - (1 : Int)) fun dv =>
 (kNil a fun d6 =>
 (kSet dj (d6.add 11) (Iv (if dv > (0 : Int) then dv else (0 : Int))) fun bo =>
 (kNil a fun d7 =>
 (kLd bo (d7.add 10) .i64 fun d8 =>
 (bsplit (decide (d8 = (0 : Int)))
 ((kNil a fun d9 =>
 (∃ br bx b1 b4 b7 ca cd cg cj cm ai al : Int, ∃ ao : Bool, ∃ l : OA, ∃ r o : Nat, cellsAt bo d9 0 [(Iv br), (Iv bx), (Iv b1), (Iv b4), (Iv b7), (Iv ca), (Iv cd), (Iv cg), (Iv cj), (Iv cm), (Iv ai), (Iv al), (.bool ao), (.slice l r o)] ∧
 (sxStore bo ⟨aq, 0, none⟩ 0 [(Iv br), (Iv bx), (Iv b1), (Iv b4), (Iv b7), (Iv ca), (Iv cd), (Iv cg), (Iv cj), (Iv cm), (Iv ai), (Iv al), (.bool ao), (.slice l r o)] fun dk =>
 (∃ au ax a0 a3 a6 a9 bc bf bi bl y ab : Int, ∃ ae : Bool, ∃ c : OA, ∃ i f : Nat, cellsAt dk ⟨aq, 0, none⟩ 0 [(Iv au), (Iv ax), (Iv a0), (Iv a3), (Iv a6), (Iv a9), (Iv bc), (Iv bf), (Iv bi), (Iv bl), (Iv y), (Iv ab), (.bool ae), (.slice c i f)] ∧
 R (.tuple #[(.agg #[Iv au, Iv ax, Iv a0, Iv a3, Iv a6, Iv a9, Iv bc, Iv bf, Iv bi, Iv bl, Iv y, Iv ab, .bool ae, .slice c i f]), (Iv (0 : Int))]) dk)))))
 ((∃ d1 : WP,
 (∀ (_ : Env)  (bn : World), d1 bn →
 (kNil a fun d0 =>
 (∃ bs bz b2 b5 b8 cb ce ch ck cn aj am : Int, ∃ ap : Bool, ∃ m : OA, ∃ s p : Nat, cellsAt bn d0 0 [(Iv bs), (Iv bz), (Iv b2), (Iv b5), (Iv b8), (Iv cb), (Iv ce), (Iv ch), (Iv ck), (Iv cn), (Iv aj), (Iv am), (.bool ap), (.slice m s p)] ∧
 (sxStore bn ⟨aq, 0, none⟩ 0 [(Iv bs), (Iv bz), (Iv b2), (Iv b5), (Iv b8), (Iv cb), (Iv ce), (Iv ch), (Iv ck), (Iv cn), (Iv aj), (Iv am), (.bool ap), (.slice m s p)] fun cp =>
 (∃ av ay a1 a4 a7 ba bd bg bj bm z ac : Int, ∃ af : Bool, ∃ d : OA, ∃ j g : Nat, cellsAt cp ⟨aq, 0, none⟩ 0 [(Iv av), (Iv ay), (Iv a1), (Iv a4), (Iv a7), (Iv ba), (Iv bd), (Iv bg), (Iv bj), (Iv bm), (Iv z), (Iv ac), (.bool af), (.slice d j g)] ∧
 R (.tuple #[(.agg #[Iv av, Iv ay, Iv a1, Iv a4, Iv a7, Iv ba, Iv bd, Iv bg, Iv bj, Iv bm, Iv z, Iv ac, .bool af, .slice d j g]), (Iv (0 : Int))]) cp))))) ∧
 (kNil a fun ea =>
 (kLd bo (ea.add 10) .i64 fun eb =>
 (kW .i64 (eb - (1 : Int)) fun ec =>
 (kNil a fun dl =>
 (kSet bo (dl.add 10) (Iv ec) fun c2 =>
 (kNil a fun dm =>
 (kLd c2 (dm.add 10) .i64 fun dn =>
 (bsplit (decide (dn = (0 : Int)))
 ((kDrew c2 fun bp =>
 (∃ d2 : Nat → Prop,
 (kNil a fun dp =>
 (kLd bp (dp.add 9) .i64 fun dq =>
 (kNil a fun cq =>
 (d2 (cq.add 8).block ∧
 (kLd bp (cq.add 8) .i64 fun dr =>
 (CP N_receiver_side_place #[(.pointer a), (Iv dq)] bp fun c4 co =>
 ∃ c8 : Int, c4 = .returned (Iv c8) ∧
 (KeepsB d2 bp co ∧ (CP N_receiver_side_place #[(.pointer a), (Iv dr)] co fun c5 ag =>
 ∃ c9 : Int, c5 = .returned (Iv c9) ∧
 (KeepsB d2 bp ag ∧ (bsplit (decide (c8 > c9))
 ((kNil a fun ds =>
 (kLd ag (ds.add 9) .i64 fun dt =>
 (kNil a fun du =>
 (kSet ag (du.add 8) (Iv dt) fun da =>
 (kNil a fun dw =>
 (kSet da (dw.add 12) (.bool true) fun db =>
 (kNil a fun dx =>
 (kSet db (dx.add 9) (Iv (-1 : Int)) fun dc =>
 (CP N_receiver_side_start #[(.pointer a)] dc fun c6 dd =>
 c6 = .returned (.tuple #[]) ∧
 d1 dd))))))))))
 ((kNil a fun dy =>
 (kSet ag (dy.add 12) (.bool true) fun de =>
 (kNil a fun dz =>
 (kSet de (dz.add 9) (Iv (-1 : Int)) fun df =>
 (CP N_receiver_side_start #[(.pointer a)] df fun c7 dg =>
 c7 = .returned (.tuple #[]) ∧
 d1 dg)))))))))))))))))))
 (d1 c2)))))))))))))))))))))))))))
theorem F_receiver_Tick_ok {R : EP} (r_0 r_1 r_2 r_3 r_4 r_5 r_6 r_7 r_8 r_9 r_10 r_11 : Int) (r_12 : Bool) (r_13_a : OA) (r_13_l r_13_c : Nat) (w : World) (h : F_receiver_Tick r_0 r_1 r_2 r_3 r_4 r_5 r_6 r_7 r_8 r_9 r_10 r_11 r_12 r_13_a r_13_l r_13_c w fun v w' => R (.returned v) w') : CP N_receiver_Tick #[(.agg #[Iv r_0, Iv r_1, Iv r_2, Iv r_3, Iv r_4, Iv r_5, Iv r_6, Iv r_7, Iv r_8, Iv r_9, Iv r_10, Iv r_11, .bool r_12, .slice r_13_a r_13_l r_13_c])] w R :=
 calls_of (k := TTk) (h := h_receiver_Tick) (f := 25) follows_ok Tryz.func25 (Eq.mpr (by kernel_rfl) h)

def h_receiver_Status : H := (.seq .reg (.seq (.seq .reg (.cond (.seq .reg .leaf) .leaf)) (.seq .reg (.seq .reg (.seq (.seq .reg (.block (.loop [(6, .p (.int .i64))] [6, 7, 20, 21, 22, 23, 24, 25, 26, 27, 28, 29, 30, 31, 32, 33, 34, 35, 36, 37, 38, 39, 40, 41, 42, 43] (.seq (.seq .reg (.cond .leaf .leaf)) (.seq (.block (.seq .reg (.seq (.seq .reg (.cond (.seq .reg .leaf) .leaf)) .reg))) .reg))))) (.seq .reg .leaf))))))
def F_receiver_Status (r_0 r_1 r_2 r_3 r_4 r_5 r_6 r_7 r_8 r_9 r_10 r_11 : Int) (r_12 : Bool) (r_13_a : OA) (r_13_l r_13_c : Nat) (w : World) (R : Value → WP) : Prop :=
 (kAlloc w #[(Iv r_0), (Iv r_1), (Iv r_2), (Iv r_3), (Iv r_4), (Iv r_5), (Iv r_6), (Iv r_7), (Iv r_8), (Iv r_9), (Iv r_10), (Iv r_11), (.bool r_12), (.slice r_13_a r_13_l r_13_c)] Ty_api_Receiver fun bn b1 =>
 (kAlloc b1 #[Iv (0 : Int), .slice none 0 0] Ty_api_Status fun aa bu =>
 (∃ a3 a4 a5 a6 a7 a8 a9 ba bb bc aj ak : Int, ∃ al : Bool, ∃ j : OA, ∃ l k : Nat, cellsAt bu ⟨bn, 0, none⟩ 0 [(Iv a3), (Iv a4), (Iv a5), (Iv a6), (Iv a7), (Iv a8), (Iv a9), (Iv ba), (Iv bb), (Iv bc), (Iv aj), (Iv ak), (.bool al), (.slice j l k)] ∧
 (CP N_receiver_Valid #[(.agg #[Iv a3, Iv a4, Iv a5, Iv a6, Iv a7, Iv a8, Iv a9, Iv ba, Iv bb, Iv bc, Iv aj, Iv ak, .bool al, .slice j l k])] bu fun b0 be =>
 ∃ b6 : Bool, b0 = .returned (.bool b6) ∧
 (bsplit (!b6)
 ((sxStore be ⟨aa, 0, none⟩ 0 [(Iv (0 : Int)), (.slice none 0 0)] fun bv =>
 (∃ ab : Int, ∃ q : OA, ∃ s r : Nat, cellsAt bv ⟨aa, 0, none⟩ 0 [(Iv ab), (.slice q s r)] ∧
 R (.tuple #[(.agg #[Iv ab, .slice q s r]), (Iv (1 : Int))]) bv)))
 ((∃ ag am an ao ap aq ar au av aw t u : Int, ∃ v : Bool, ∃ a : OA, ∃ c b : Nat, cellsAt be ⟨bn, 0, none⟩ 0 [(Iv ag), (Iv am), (Iv an), (Iv ao), (Iv ap), (Iv aq), (Iv ar), (Iv au), (Iv av), (Iv aw), (Iv t), (Iv u), (.bool v), (.slice a c b)] ∧
 (kAlloc be #[(Iv ag), (Iv am), (Iv an), (Iv ao), (Iv ap), (Iv aq), (Iv ar), (Iv au), (Iv av), (Iv aw), (Iv t), (Iv u), (.bool v), (.slice a c b)] Ty_receiver_side fun bo bw =>
 (kLd bw ⟨bn, 8, none⟩ .i64 fun b7 =>
 (kAlloc bw #[Iv (0 : Int), .slice none 0 0] Ty_api_Status fun p b2 =>
 (sxStore b2 ⟨p, 0, none⟩ 0 [(Iv b7), (.slice none 0 0)] fun bx =>
 (kLd bx ⟨bn, 6, none⟩ .i64 fun b3 =>
 (∃ bm : Int → Nat × (WP), (bm b3).2 bx ∧
 (∀ (_ : Env) (bl : Int) (af : World), (bm bl).2 af →
 (kLd af ⟨bn, 8, none⟩ .i64 fun b4 =>
 (bsplit (!decide (bl = b4))
 ((CP N_receiver_side_missing #[(.pointer (some ⟨bo, 0, none⟩)), (Iv bl)] af fun bp ax =>
 ∃ ay : OA, ∃ ae az : Nat, bp = .returned (.slice ay ae az) ∧
 (kLdS ax ⟨p, 1, none⟩ fun _ bz _ =>
 (kW .i64 ((bz : Int) + (ae : Int)) fun b5 =>
 (bsplit (decide (b5 > (64 : Int)))
 ((kSet ax ⟨p, 0, none⟩ (Iv bl) fun a0 =>
 (∃ ah : Int, ∃ x : OA, ∃ z y : Nat, cellsAt a0 ⟨p, 0, none⟩ 0 [(Iv ah), (.slice x z y)] ∧
 (sxStore a0 ⟨aa, 0, none⟩ 0 [(Iv ah), (.slice x z y)] fun a1 =>
 (∃ ac : Int, ∃ d : OA, ∃ h f : Nat, cellsAt a1 ⟨aa, 0, none⟩ 0 [(Iv ac), (.slice d h f)] ∧
 R (.tuple #[(.agg #[Iv ac, .slice d h f]), (Iv (0 : Int))]) a1)))))
 ((kLdS ax ⟨p, 1, none⟩ fun bf bj bh =>
 (AppP Tryz.prog #[Ty_S_api_Range, Ty_S_api_Range] Ty_S_api_Range #[(.slice bf bj bh), (.slice ay ae az)] ax fun bg bk bi br =>
 (kSet br ⟨p, 1, none⟩ (.slice bg bk bi) fun bs =>
 (CP N_receiver_side_behind #[(.pointer (some ⟨bo, 0, none⟩)), (Iv bl)] bs fun bq bt =>
 ∃ bd : Int, bq = .returned (Iv bd) ∧
 ((bm bd).2 bt ∧ (bm bd).1 < (bm bl).1)))))))))))
 ((∃ ai : Int, ∃ m : OA, ∃ o n : Nat, cellsAt af ⟨p, 0, none⟩ 0 [(Iv ai), (.slice m o n)] ∧
 (sxStore af ⟨aa, 0, none⟩ 0 [(Iv ai), (.slice m o n)] fun a2 =>
 (∃ ad : Int, ∃ e : OA, ∃ i g : Nat, cellsAt a2 ⟨aa, 0, none⟩ 0 [(Iv ad), (.slice e i g)] ∧
 R (.tuple #[(.agg #[Iv ad, .slice e i g]), (Iv (0 : Int))]) a2))))))))))))))))))))
theorem F_receiver_Status_ok {R : EP} (r_0 r_1 r_2 r_3 r_4 r_5 r_6 r_7 r_8 r_9 r_10 r_11 : Int) (r_12 : Bool) (r_13_a : OA) (r_13_l r_13_c : Nat) (w : World) (h : F_receiver_Status r_0 r_1 r_2 r_3 r_4 r_5 r_6 r_7 r_8 r_9 r_10 r_11 r_12 r_13_a r_13_l r_13_c w fun v w' => R (.returned v) w') : CP N_receiver_Status #[(.agg #[Iv r_0, Iv r_1, Iv r_2, Iv r_3, Iv r_4, Iv r_5, Iv r_6, Iv r_7, Iv r_8, Iv r_9, Iv r_10, Iv r_11, .bool r_12, .slice r_13_a r_13_l r_13_c])] w R :=
 calls_of (k := TTk) (h := h_receiver_Status) (f := 26) follows_ok Tryz.func26 (Eq.mpr (by kernel_rfl) h)

end Go.Proofs.YthceaojjeokclaaGreat
