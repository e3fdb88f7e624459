import Derived.Test.YtlgolgpellbnbaaGreatBase
import Derived.KernelRfl
namespace Go.Proofs.YtlgolgpellbnbaaGreat
open Go.Sx Go.RowKit
set_option maxRecDepth 100000

def h_roll_Light : H := (.seq .reg (.seq .reg .leaf))
def F_roll_Light (_ : OA) (l_l _ : Nat) (w : World) (R : Value → WP) : Prop :=
 (kLet (decide ((l_l : Int) ≤ (300 : Int))) fun a =>
 R (.bool a) w)
theorem F_roll_Light_ok {R : EP} (l_a : OA) (l_l l_c : Nat) (w : World) (h : F_roll_Light l_a l_l l_c w fun v w' => R (.returned v) w') : CP N_roll_Light #[(.slice l_a l_l l_c)] w R :=
 calls_of (k := TTk) (h := h_roll_Light) (f := 4) follows_ok Tryz.func4 (Eq.mpr (by kernel_rfl) h)

def h_law23_awake : H := (.seq .reg (.seq .reg (.seq .reg (.seq .reg (.seq (.seq .reg (.block (.loop [(5, .p (.int .i64)), (6, .p (.int .i64))] [0, 5, 6, 7, 8, 9, 10, 11, 12, 25, 26, 27, 28, 29, 30, 31, 32, 33, 34, 35, 36, 37, 38, 39, 40, 41, 42, 43, 44, 45, 46, 47, 48, 49, 50, 51, 52, 53] (.seq (.seq .reg (.cond .leaf .leaf)) (.seq (.block (.seq .reg (.seq .reg (.seq (.seq .reg (.cond (.seq .reg .leaf) .leaf)) (.draw .blk (.one 0 .pre (.one 1 .stable (.one 2 .pur (.one 3 .pur (.one 4 .pur (.one 5 .pur (.one 6 .keep (.one 7 .last (.one 8 .pur .nil)))))))))))))) .reg))))) (.seq .reg .leaf))))))
def F_law23_awake  (w : World) (R : Value → WP) : Prop :=
 (CP N_unack_New #[(Iv (5 : Int)), (Iv (3 : Int))] w fun d0 d1 =>
 ∃ ce cf : Int, ∃ al : OA, ∃ an am : Nat, ∃ ch az a4 cg ba ci cj ck cl cm cn a3 ai : Int, ∃ a5 : Bool, ∃ h : OA, ∃ j i : Nat, ∃ ea : Int, d0 = .returned (.tuple #[(.agg #[Iv ce, Iv cf, .slice al an am, Iv ch]), (.agg #[Iv az, Iv a4, Iv cg, Iv ba, Iv ci, Iv cj, Iv ck, Iv cl, Iv cm, Iv cn, Iv a3, Iv ai, .bool a5, .slice h j i]), (Iv ea)]) ∧
 (kAlloc d1 #[Iv (0 : Int), Iv (0 : Int), .slice none 0 0, Iv (0 : Int)] Ty_api_Cutter fun cd d2 =>
 (kAlloc d2 #[Iv (0 : Int), Iv (0 : Int), Iv (0 : Int), Iv (0 : Int), Iv (0 : Int), Iv (0 : Int), Iv (0 : Int), Iv (0 : Int), Iv (0 : Int), Iv (0 : Int), Iv (0 : Int), Iv (0 : Int), .bool false, .slice none 0 0] Ty_api_Receiver fun c3 d3 =>
 (sxStore d3 ⟨cd, 0, none⟩ 0 [(Iv ce), (Iv cf), (.slice al an am), (Iv ch)] fun d4 =>
 (sxStore d4 ⟨c3, 0, none⟩ 0 [(Iv az), (Iv a4), (Iv cg), (Iv ba), (Iv ci), (Iv cj), (Iv ck), (Iv cl), (Iv cm), (Iv cn), (Iv a3), (Iv ai), (.bool a5), (.slice h j i)] fun dr =>
 (∃ ct cu : Int, ∃ aw : OA, ∃ ay ax : Nat, ∃ cw : Int, cellsAt dr ⟨cd, 0, none⟩ 0 [(Iv ct), (Iv cu), (.slice aw ay ax), (Iv cw)] ∧
 (kAlloc dr #[(.int .u8 (48 : Int)), (.int .u8 (49 : Int)), (.int .u8 (50 : Int)), (.int .u8 (51 : Int)), (.int .u8 (52 : Int)), (.int .u8 (53 : Int)), (.int .u8 (54 : Int)), (.int .u8 (55 : Int)), (.int .u8 (56 : Int)), (.int .u8 (57 : Int))] Ty_uint8 fun dz d5 =>
 (ConvB Tryz.prog Ty_S_uint8 Ty_S_uint8 (.slice (some ⟨dz, 0, none⟩) 10 10) d5 fun du dw dv d6 =>
 (CP N_unack_Submit #[(.agg #[Iv ct, Iv cu, .slice aw ay ax, Iv cw]), (.slice du dw dv)] d6 fun da d7 =>
 ∃ a0 a6 : Int, ∃ k : OA, ∃ o m : Nat, ∃ bb df : Int, da = .returned (.tuple #[(.agg #[Iv a0, Iv a6, .slice k o m, Iv bb]), (Iv df)]) ∧
 (sxStore d7 ⟨cd, 0, none⟩ 0 [(Iv a0), (Iv a6), (.slice k o m), (Iv bb)] fun d8 =>
 (∃ c7 : Int → Int → Nat × (WP), (c7 (0 : Int) (0 : Int)).2 d8 ∧
 (∀ (_ : Env) (dy : Int) (dx : Int) (a : World), (c7 dy dx).2 a →
 (bsplit (decide (dx < (3 : Int)))
 ((∃ bm bt : Int, ∃ u : OA, ∃ ad z : Nat, ∃ b1 : Int, cellsAt a ⟨cd, 0, none⟩ 0 [(Iv bm), (Iv bt), (.slice u ad z), (Iv b1)] ∧
 (CP N_unack_Build #[(.agg #[Iv bm, Iv bt, .slice u ad z, Iv b1]), (Iv (7 : Int))] a fun db dk =>
 ∃ a1 a7 : Int, ∃ l : OA, ∃ p n : Nat, ∃ bc : Int, ∃ co : OA, ∃ cq cp : Nat, ∃ dg : Int, db = .returned (.tuple #[(.agg #[Iv a1, Iv a7, .slice l p n, Iv bc]), (.slice co cq cp), (Iv dg)]) ∧
 (kAlloc dk #[Iv (0 : Int), Iv (0 : Int), .slice none 0 0, Iv (0 : Int)] Ty_api_Cutter fun c9 dl =>
 (sxStore dl ⟨c9, 0, none⟩ 0 [(Iv a1), (Iv a7), (.slice l p n), (Iv bc)] fun cr =>
 (∃ bn bu cv b2 cx cy cz c0 c1 c2 bs aq : Int, ∃ au : Bool, ∃ r : OA, ∃ t s : Nat, cellsAt cr ⟨c3, 0, none⟩ 0 [(Iv bn), (Iv bu), (Iv cv), (Iv b2), (Iv cx), (Iv cy), (Iv cz), (Iv c0), (Iv c1), (Iv c2), (Iv bs), (Iv aq), (.bool au), (.slice r t s)] ∧
 (CP N_unack_Receive #[(.agg #[Iv bn, Iv bu, Iv cv, Iv b2, Iv cx, Iv cy, Iv cz, Iv c0, Iv c1, Iv c2, Iv bs, Iv aq, .bool au, .slice r t s]), (.slice co cq cp)] cr fun dc dm =>
 ∃ a2 a8 a9 bd be bf bg bh bi bj ah aj : Int, ∃ ak : Bool, ∃ b : OA, ∃ d c : Nat, ∃ c5 : OA, ∃ bk c6 : Nat, ∃ dh : Int, dc = .returned (.tuple #[(.agg #[Iv a2, Iv a8, Iv a9, Iv bd, Iv be, Iv bf, Iv bg, Iv bh, Iv bi, Iv bj, Iv ah, Iv aj, .bool ak, .slice b d c]), (.slice c5 bk c6), (Iv dh)]) ∧
 (kAlloc dm #[Iv (0 : Int), Iv (0 : Int), Iv (0 : Int), Iv (0 : Int), Iv (0 : Int), Iv (0 : Int), Iv (0 : Int), Iv (0 : Int), Iv (0 : Int), Iv (0 : Int), Iv (0 : Int), Iv (0 : Int), .bool false, .slice none 0 0] Ty_api_Receiver fun c4 dn =>
 (sxStore dn ⟨c4, 0, none⟩ 0 [(Iv a2), (Iv a8), (Iv a9), (Iv bd), (Iv be), (Iv bf), (Iv bg), (Iv bh), (Iv bi), (Iv bj), (Iv ah), (Iv aj), (.bool ak), (.slice b d c)] fun bl =>
 (bsplit (!decide (dg = (0 : Int)))
 (R (.bool false) bl)
 ((bsplit (!decide (dh = (0 : Int)))
 (R (.bool false) bl)
 ((kDrew bl fun ao =>
 (∃ c8 : Nat → Prop,
 (∃ bo bv : Int, ∃ v : OA, ∃ ae aa : Nat, ∃ b3 : Int, cellsAt ao ⟨c9, 0, none⟩ 0 [(Iv bo), (Iv bv), (.slice v ae aa), (Iv b3)] ∧
 (c8 c4 ∧
 (∃ bp bw b0 b4 b7 b8 b9 ca cb cc ap ar : Int, ∃ av : Bool, ∃ e : OA, ∃ g f : Nat, cellsAt ao ⟨c4, 0, none⟩ 0 [(Iv bp), (Iv bw), (Iv b0), (Iv b4), (Iv b7), (Iv b8), (Iv b9), (Iv ca), (Iv cb), (Iv cc), (Iv ap), (Iv ar), (.bool av), (.slice e g f)] ∧
 (kW .i64 (dy + (bk : Int)) fun ds =>
 (sxStore ao ⟨cd, 0, none⟩ 0 [(Iv bo), (Iv bv), (.slice v ae aa), (Iv b3)] fun cs =>
 (KeepsB c8 ao cs ∧ (sxStore cs ⟨c3, 0, none⟩ 0 [(Iv bp), (Iv bw), (Iv b0), (Iv b4), (Iv b7), (Iv b8), (Iv b9), (Iv ca), (Iv cb), (Iv cc), (Iv ap), (Iv ar), (.bool av), (.slice e g f)] fun dp =>
 (kW .i64 (dx + (1 : Int)) fun dt =>
 ((c7 ds dt).2 dp ∧ (c7 ds dt).1 < (c7 dy dx).1))))))))))))))))))))))))
 ((bsplit (decide (ea = (0 : Int)))
 ((bsplit (decide (df = (0 : Int)))
 ((bsplit (decide (dy = (10 : Int)))
 ((∃ bq bx : Int, ∃ x : OA, ∃ af ab : Nat, ∃ b5 : Int, cellsAt a ⟨cd, 0, none⟩ 0 [(Iv bq), (Iv bx), (.slice x af ab), (Iv b5)] ∧
 (CP N_unack_Waiting #[(.agg #[Iv bq, Iv bx, .slice x af ab, Iv b5])] a fun dd q =>
 ∃ di : Int, dd = .returned (Iv di) ∧
 (bsplit (decide (di = (0 : Int)))
 ((kLd q ⟨cd, 1, none⟩ .i64 fun d9 =>
 (bsplit (decide (d9 = (1 : Int)))
 ((∃ br bz : Int, ∃ y : OA, ∃ ag ac : Nat, ∃ b6 : Int, cellsAt q ⟨cd, 0, none⟩ 0 [(Iv br), (Iv bz), (.slice y ag ac), (Iv b6)] ∧
 (CP N_unack_Valid #[(.agg #[Iv br, Iv bz, .slice y ag ac, Iv b6])] q fun de dq =>
 ∃ dj : Bool, de = .returned (.bool dj) ∧
 R (.bool dj) dq)))
 (R (.bool false) q))))
 (R (.bool false) q)))))
 (R (.bool false) a)))
 (R (.bool false) a)))
 (R (.bool false) a))))))))))))))))
theorem F_law23_awake_ok {R : EP}  (w : World) (h : F_law23_awake  w fun v w' => R (.returned v) w') : CP N_law23_awake #[] w R :=
 calls_of (k := TTk) (h := h_law23_awake) (f := 5) follows_ok Tryz.func5 (Eq.mpr (by kernel_rfl) h)

def h_roll_Roll : H := (.seq .reg (.seq .reg .leaf))
def F_roll_Roll (l_a : OA) (l_l l_c : Nat) (w : World) (R : Value → WP) : Prop :=
 (kAlloc w #[] Ty_int fun h e =>
 (AppP Tryz.prog #[Ty_S_int, Ty_S_int] Ty_S_int #[(.slice (some ⟨h, 0, none⟩) 0 0), (.slice l_a l_l l_c)] e fun a c b f =>
 (kAlloc f #[(.slice a c b), (Iv (0 : Int))] Ty_radiolinkroll_Dice fun d g =>
 R (.pointer (some ⟨d, 0, none⟩)) g)))
theorem F_roll_Roll_ok {R : EP} (l_a : OA) (l_l l_c : Nat) (w : World) (h : F_roll_Roll l_a l_l l_c w fun v w' => R (.returned v) w') : CP N_roll_Roll #[(.slice l_a l_l l_c)] w R :=
 calls_of (k := TTk) (h := h_roll_Roll) (f := 6) follows_ok Tryz.func6 (Eq.mpr (by kernel_rfl) h)

def h_ref23_New : H := (.seq .reg (.seq .reg (.seq (.seq .reg (.cond (.seq .reg .leaf) .leaf)) (.seq (.draw .blk (.one 0 .pre (.one 2 .stable (.one 1 .keep (.one 3 .keep (.one 4 .keep (.one 5 .stable .nil))))))) .leaf))))
def F_ref23_New (n wait : Int) (w : World) (R : Value → WP) : Prop :=
 (kAlloc w #[Iv (0 : Int), Iv (0 : Int), .slice none 0 0, Iv (0 : Int)] Ty_api_Cutter fun b8 ca =>
 (kAlloc ca #[Iv (0 : Int), Iv (0 : Int), Iv (0 : Int), Iv (0 : Int), Iv (0 : Int), Iv (0 : Int), Iv (0 : Int), Iv (0 : Int), Iv (0 : Int), Iv (0 : Int), Iv (0 : Int), Iv (0 : Int), .bool false, .slice none 0 0] Ty_api_Receiver fun bg cb =>
 (CP N_ref23_Link #[(Iv n), (Iv wait)] cb fun b9 cc =>
 ∃ bh bi bj bk bl bm : Int, b9 = .returned (.agg #[Iv bh, Iv bi, Iv bj, Iv bk, Iv bl, Iv bm]) ∧
 (CP N_ref21_New #[(.agg #[Iv bh, Iv bi, Iv bj, Iv bk, Iv bl, Iv bm])] cc fun b5 cd =>
 ∃ ad aj ap au az a2 bn bo bp bq ai s : Int, ∃ ak : Bool, ∃ g : OA, ∃ i h : Nat, ∃ cg : Int, b5 = .returned (.tuple #[(.agg #[Iv ad, Iv aj, Iv ap, Iv au, Iv az, Iv a2, Iv bn, Iv bo, Iv bp, Iv bq, Iv ai, Iv s, .bool ak, .slice g i h]), (Iv cg)]) ∧
 (kAlloc cd #[Iv (0 : Int), Iv (0 : Int), Iv (0 : Int), Iv (0 : Int), Iv (0 : Int), Iv (0 : Int), Iv (0 : Int), Iv (0 : Int), Iv (0 : Int), Iv (0 : Int), Iv (0 : Int), Iv (0 : Int), .bool false, .slice none 0 0] Ty_api_Receiver fun b3 ce =>
 (sxStore ce ⟨b3, 0, none⟩ 0 [(Iv ad), (Iv aj), (Iv ap), (Iv au), (Iv az), (Iv a2), (Iv bn), (Iv bo), (Iv bp), (Iv bq), (Iv ai), (Iv s), (.bool ak), (.slice g i h)] fun b6 =>
 (bsplit (!decide (cg = (0 : Int)))
 ((sxStore b6 ⟨b8, 0, none⟩ 0 [(Iv (0 : Int)), (Iv (0 : Int)), (.slice none 0 0), (Iv (0 : Int))] fun cf =>
 (sxStore cf ⟨bg, 0, none⟩ 0 [(Iv (0 : Int)), (Iv (0 : Int)), (Iv (0 : Int)), (Iv (0 : Int)), (Iv (0 : Int)), (Iv (0 : Int)), (Iv (0 : Int)), (Iv (0 : Int)), (Iv (0 : Int)), (Iv (0 : Int)), (Iv (0 : Int)), (Iv (0 : Int)), (.bool false), (.slice none 0 0)] fun b4 =>
 (∃ ae al : Int, ∃ y : OA, ∃ aa z : Nat, ∃ av : Int, cellsAt b4 ⟨b8, 0, none⟩ 0 [(Iv ae), (Iv al), (.slice y aa z), (Iv av)] ∧
 (∃ af am aq aw a0 a3 a5 a7 a9 bb q t : Int, ∃ v : Bool, ∃ a : OA, ∃ e c : Nat, cellsAt b4 ⟨bg, 0, none⟩ 0 [(Iv af), (Iv am), (Iv aq), (Iv aw), (Iv a0), (Iv a3), (Iv a5), (Iv a7), (Iv a9), (Iv bb), (Iv q), (Iv t), (.bool v), (.slice a e c)] ∧
 R (.tuple #[(.agg #[Iv ae, Iv al, .slice y aa z, Iv av]), (.agg #[Iv af, Iv am, Iv aq, Iv aw, Iv a0, Iv a3, Iv a5, Iv a7, Iv a9, Iv bb, Iv q, Iv t, .bool v, .slice a e c]), (Iv (3 : Int))]) b4)))))
 ((kDrew b6 fun ac =>
 (∃ b7 : Nat → Prop,
 (b7 b3 ∧
 (∃ bs bt bu bv bw bx bz b0 b1 b2 bd be : Int, ∃ bf : Bool, ∃ m : OA, ∃ p o : Nat, cellsAt ac ⟨b3, 0, none⟩ 0 [(Iv bs), (Iv bt), (Iv bu), (Iv bv), (Iv bw), (Iv bx), (Iv bz), (Iv b0), (Iv b1), (Iv b2), (Iv bd), (Iv be), (.bool bf), (.slice m p o)] ∧
 (KeepsB b7 ac ac ∧ (sxStore ac ⟨b8, 0, none⟩ 0 [(Iv n), (Iv (0 : Int)), (.slice none 0 0), (Iv (0 : Int))] fun br =>
 (KeepsB b7 ac br ∧ (sxStore br ⟨bg, 0, none⟩ 0 [(Iv bs), (Iv bt), (Iv bu), (Iv bv), (Iv bw), (Iv bx), (Iv bz), (Iv b0), (Iv b1), (Iv b2), (Iv bd), (Iv be), (.bool bf), (.slice m p o)] fun ab =>
 (KeepsB b7 ac ab ∧ (∃ ag an : Int, ∃ j : OA, ∃ l k : Nat, ∃ ax : Int, cellsAt ab ⟨b8, 0, none⟩ 0 [(Iv ag), (Iv an), (.slice j l k), (Iv ax)] ∧
 (∃ ah ao ar ay a1 a4 a6 a8 ba bc r u : Int, ∃ x : Bool, ∃ b : OA, ∃ f d : Nat, cellsAt ab ⟨bg, 0, none⟩ 0 [(Iv ah), (Iv ao), (Iv ar), (Iv ay), (Iv a1), (Iv a4), (Iv a6), (Iv a8), (Iv ba), (Iv bc), (Iv r), (Iv u), (.bool x), (.slice b f d)] ∧
 R (.tuple #[(.agg #[Iv ag, Iv an, .slice j l k, Iv ax]), (.agg #[Iv ah, Iv ao, Iv ar, Iv ay, Iv a1, Iv a4, Iv a6, Iv a8, Iv ba, Iv bc, Iv r, Iv u, .bool x, .slice b f d]), (Iv (0 : Int))]) ab)))))))))))))))))))
theorem F_ref23_New_ok {R : EP} (n wait : Int) (w : World) (h : F_ref23_New n wait w fun v w' => R (.returned v) w') : CP N_ref23_New #[(Iv n), (Iv wait)] w R :=
 calls_of (k := TTk) (h := h_ref23_New) (f := 7) follows_ok Tryz.func7 (Eq.mpr (by kernel_rfl) h)

def h_roll_Dice_Next : H := (.seq .reg (.seq (.seq (.draw .no (.one 0 .stable (.one 1 .stable (.one 2 .stable (.one 3 .stable (.one 4 .stable (.one 5 .stable (.one 6 .stable (.one 7 .stable (.one 8 .stable (.one 9 .stable .nil))))))))))) (.cond (.seq .reg .leaf) .leaf)) (.seq .reg (.seq (.draw .blk (.one 0 .pre (.one 1 .pre (.one 2 .pre (.one 3 .pre (.one 4 .pre (.one 5 .pre (.one 6 .pre (.one 7 .pre (.one 8 .pre (.one 9 .pre (.one 10 .pre (.one 11 .pre (.one 12 .keep (.one 13 .stable .nil))))))))))))))) .leaf))))
def F_roll_Dice_Next (d_b d_o : Nat) (n : Int) (w : World) (R : Value → WP) : Prop :=
 (kDrew w fun a =>
 (kLd a ⟨d_b, d_o + 1, none⟩ .i64 fun r =>
 (kLdS a ⟨d_b, d_o, none⟩ fun _ g _ =>
 (bsplit (decide (r ≥ (g : Int)))
 (R (Iv (0 : Int)) a)
 ((kLd a ⟨d_b, d_o + 1, none⟩ .i64 fun j =>
 (kW .i64 (j + (1 : Int)) fun k =>
 (kSet a ⟨d_b, d_o + 1, none⟩ (Iv k) fun i =>
 (kDrew i fun b =>
 (∃ p : Nat → Prop,
 (kLdS b ⟨d_b, d_o, none⟩ fun c d _ =>
 (kLd b ⟨d_b, d_o + 1, none⟩ .i64 fun l =>
 (kW .i64 (l - (1 : Int)) fun f =>
 (kIx c d f fun q =>
 (kLd b (q.add (f.toNat * 1)) .i64 fun m =>
 (CP N_roll_Mod #[(Iv m), (Iv n)] b fun h e =>
 ∃ o : Int, h = .returned (Iv o) ∧
 (KeepsB p b e ∧ R (Iv o) e)))))))))))))))))
theorem F_roll_Dice_Next_ok {R : EP} (d_b d_o : Nat) (n : Int) (w : World) (h : F_roll_Dice_Next d_b d_o n w fun v w' => R (.returned v) w') : CP N_roll_Dice_Next #[(.pointer (some ⟨d_b, d_o, none⟩)), (Iv n)] w R :=
 calls_of (k := TTk) (h := h_roll_Dice_Next) (f := 8) follows_ok Tryz.func8 (Eq.mpr (by kernel_rfl) h)

def h_roll_Dice_Rest : H := (.seq .reg (.seq (.draw .no (.one 0 .stable (.one 1 .stable (.one 2 .stable (.one 3 .stable (.one 4 .stable (.one 5 .stable (.one 6 .stable (.one 7 .stable (.one 8 .stable (.one 9 .stable (.one 10 .stable (.one 11 .stable .nil))))))))))))) .leaf))
def F_roll_Dice_Rest (d_b d_o : Nat) (w : World) (R : Value → WP) : Prop :=
 (kDrew w fun a =>
 (kLdS a ⟨d_b, d_o, none⟩ fun _ c _ =>
 (kLd a ⟨d_b, d_o + 1, none⟩ .i64 fun e =>
 (kW .i64 ((c : Int) - e) fun b =>
 (kLet (if b > (0 : Int) then b else (0 : Int)) fun d =>
 R (Iv d) a)))))
theorem F_roll_Dice_Rest_ok {R : EP} (d_b d_o : Nat) (w : World) (h : F_roll_Dice_Rest d_b d_o w fun v w' => R (.returned v) w') : CP N_roll_Dice_Rest #[(.pointer (some ⟨d_b, d_o, none⟩))] w R :=
 calls_of (k := TTk) (h := h_roll_Dice_Rest) (f := 9) follows_ok Tryz.func9 (Eq.mpr (by kernel_rfl) h)

def h_roll_Dice_Bytes : H := (.seq .reg (.seq .reg (.seq .reg (.seq (.seq .reg (.block (.loop [(7, .p (.int .i64))] [7, 12, 13, 14, 15, 16, 17, 18, 19, 20, 21, 22, 23, 24, 25, 26] (.seq (.seq .reg (.cond .leaf .leaf)) (.seq (.block .reg) .reg))))) (.seq .reg .leaf)))))
def F_roll_Dice_Bytes (d_b d_o : Nat) (n : Int) (w : World) (R : Value → WP) : Prop :=
 (kMake w 1 n n #[(.int .u8 (0 : Int))] 1 Ty_uint8 fun o h =>
 (CP N_roll_Dice_Next #[(.pointer (some ⟨d_b, d_o, none⟩)), (Iv (256 : Int))] h fun f i =>
 ∃ g : Int, f = .returned (Iv g) ∧
 (∃ c : Int → Nat × (WP), (c (0 : Int)).2 i ∧
 (∀ (_ : Env) (a : Int) (b : World), (c a).2 b →
 (bsplit (decide (a < n))
 ((kW .i64 (g + (7 : Int)) fun p =>
 (kW .i64 (a * p) fun k =>
 (kW .i64 (g + k) fun l =>
 (kW .u8 (l) fun m =>
 (kIx (some ⟨o, 0, none⟩) (n.toNat) a fun e =>
 (kSet b (e.add (a.toNat * 1)) (.int .u8 m) fun j =>
 (kW .i64 (a + (1 : Int)) fun d =>
 ((c d).2 j ∧ (c d).1 < (c a).1)))))))))
 (R (.slice (some ⟨o, 0, none⟩) n.toNat n.toNat) b))))))
theorem F_roll_Dice_Bytes_ok {R : EP} (d_b d_o : Nat) (n : Int) (w : World) (h : F_roll_Dice_Bytes d_b d_o n w fun v w' => R (.returned v) w') : CP N_roll_Dice_Bytes #[(.pointer (some ⟨d_b, d_o, none⟩)), (Iv n)] w R :=
 calls_of (k := TTk) (h := h_roll_Dice_Bytes) (f := 10) follows_ok Tryz.func10 (Eq.mpr (by kernel_rfl) h)

def h_law23_agree : H := (.seq .reg (.seq .reg (.seq .reg (.seq .reg (.seq .reg (.seq (.draw .blk (.one 0 .pur (.one 1 .pur (.one 2 .pur (.one 3 .pur (.one 4 .pur (.one 5 .pur (.one 6 .pur (.one 7 .pur (.one 8 .pur (.one 9 .pre (.one 10 .pre (.one 11 .keep (.one 12 .pur (.one 13 .pur (.one 14 .stable (.one 15 .stable (.one 16 .keep (.one 17 .pur (.one 18 .pur (.one 19 .pur (.one 20 .pur (.one 21 .keep (.one 22 .pur (.one 23 .pur (.one 24 .stable (.one 26 .stable (.one 25 .keep (.one 27 .keep (.one 28 .pur (.one 29 .pur (.one 30 .pur (.one 31 .stable (.one 33 .stable (.one 32 .keep (.one 34 .last (.one 35 .pur (.one 36 .pur (.one 37 .pur .nil))))))))))))))))))))))))))))))))))))))) .leaf))))))
def F_law23_agree (c_0 c_1 : Int) (c_2_a : OA) (c_2_l c_2_c : Nat) (c_3 : Int) (data_a : OA) (data_l data_c : Nat) (size : Int) (w : World) (R : Value → WP) : Prop :=
 (kAlloc w #[(Iv c_0), (Iv c_1), (.slice c_2_a c_2_l c_2_c), (Iv c_3)] Ty_api_Cutter fun a7 dg =>
 (∃ cq cr : Int, ∃ a1 : OA, ∃ a3 a2 : Nat, ∃ cs : Int, cellsAt dg ⟨a7, 0, none⟩ 0 [(Iv cq), (Iv cr), (.slice a1 a3 a2), (Iv cs)] ∧
 (CP N_unack_Submit #[(.agg #[Iv cq, Iv cr, .slice a1 a3 a2, Iv cs]), (.slice data_a data_l data_c)] dg fun dn dp =>
 ∃ ch ci : Int, ∃ au : OA, ∃ aw av : Nat, ∃ cj dv : Int, dn = .returned (.tuple #[(.agg #[Iv ch, Iv ci, .slice au aw av, Iv cj]), (Iv dv)]) ∧
 (kAlloc dp #[Iv (0 : Int), Iv (0 : Int), .slice none 0 0, Iv (0 : Int)] Ty_api_Cutter fun cw dq =>
 (sxStore dq ⟨cw, 0, none⟩ 0 [(Iv ch), (Iv ci), (.slice au aw av), (Iv cj)] fun dl =>
 (∃ bo bx : Int, ∃ q : OA, ∃ aj aa : Nat, ∃ b7 : Int, cellsAt dl ⟨a7, 0, none⟩ 0 [(Iv bo), (Iv bx), (.slice q aj aa), (Iv b7)] ∧
 (CP N_ref23_Submit #[(.agg #[Iv bo, Iv bx, .slice q aj aa, Iv b7]), (.slice data_a data_l data_c)] dl fun cy dr =>
 ∃ a8 bb : Int, ∃ h : OA, ∃ n k : Nat, ∃ be c7 : Int, cy = .returned (.tuple #[(.agg #[Iv a8, Iv bb, .slice h n k, Iv be]), (Iv c7)]) ∧
 (kAlloc dr #[Iv (0 : Int), Iv (0 : Int), .slice none 0 0, Iv (0 : Int)] Ty_api_Cutter fun cx ds =>
 (sxStore ds ⟨cx, 0, none⟩ 0 [(Iv a8), (Iv bb), (.slice h n k), (Iv be)] fun dm =>
 (∃ bp bz : Int, ∃ r : OA, ∃ ak ab : Nat, ∃ b8 : Int, cellsAt dm ⟨a7, 0, none⟩ 0 [(Iv bp), (Iv bz), (.slice r ak ab), (Iv b8)] ∧
 (CP N_unack_Build #[(.agg #[Iv bp, Iv bz, .slice r ak ab, Iv b8]), (Iv size)] dm fun cz dt =>
 ∃ a9 bc : Int, ∃ i : OA, ∃ o l : Nat, ∃ bf : Int, ∃ ck : OA, ∃ cm cl : Nat, ∃ c8 : Int, cz = .returned (.tuple #[(.agg #[Iv a9, Iv bc, .slice i o l, Iv bf]), (.slice ck cm cl), (Iv c8)]) ∧
 (kAlloc dt #[Iv (0 : Int), Iv (0 : Int), .slice none 0 0, Iv (0 : Int)] Ty_api_Cutter fun ct du =>
 (sxStore du ⟨ct, 0, none⟩ 0 [(Iv a9), (Iv bc), (.slice i o l), (Iv bf)] fun cn =>
 (∃ bq b0 : Int, ∃ s : OA, ∃ al ac : Nat, ∃ b9 : Int, cellsAt cn ⟨a7, 0, none⟩ 0 [(Iv bq), (Iv b0), (.slice s al ac), (Iv b9)] ∧
 (CP N_ref23_Build #[(.agg #[Iv bq, Iv b0, .slice s al ac, Iv b9]), (Iv size)] cn fun c0 dh =>
 ∃ ba bd : Int, ∃ j : OA, ∃ p m : Nat, ∃ bg : Int, ∃ bh : OA, ∃ bj bi : Nat, ∃ c9 : Int, c0 = .returned (.tuple #[(.agg #[Iv ba, Iv bd, .slice j p m, Iv bg]), (.slice bh bj bi), (Iv c9)]) ∧
 (kAlloc dh #[Iv (0 : Int), Iv (0 : Int), .slice none 0 0, Iv (0 : Int)] Ty_api_Cutter fun cu di =>
 (sxStore di ⟨cu, 0, none⟩ 0 [(Iv ba), (Iv bd), (.slice j p m), (Iv bg)] fun dj =>
 (kDrew dj fun a =>
 (∃ a6 : Nat → Prop,
 (bsplit (decide (dv = c7))
 ((bsplit (decide (c8 = c9))
 ((∃ br b1 : Int, ∃ t : OA, ∃ am ad : Nat, ∃ ca : Int, cellsAt a ⟨cw, 0, none⟩ 0 [(Iv br), (Iv b1), (.slice t am ad), (Iv ca)] ∧
 (∃ bs b2 : Int, ∃ u : OA, ∃ an ae : Nat, ∃ cb : Int, cellsAt a ⟨cx, 0, none⟩ 0 [(Iv bs), (Iv b2), (.slice u an ae), (Iv cb)] ∧
 (CP N_law23_same #[(.agg #[Iv br, Iv b1, .slice t am ad, Iv ca]), (.agg #[Iv bs, Iv b2, .slice u an ae, Iv cb])] a fun c1 bk =>
 ∃ da : Bool, c1 = .returned (.bool da) ∧
 (KeepsB a6 a bk ∧ (bsplit da
 ((a6 ct ∧
 (∃ bt b3 : Int, ∃ v : OA, ∃ ao af : Nat, ∃ cc : Int, cellsAt a ⟨ct, 0, none⟩ 0 [(Iv bt), (Iv b3), (.slice v ao af), (Iv cc)] ∧
 (a6 cu ∧
 (∃ bu b4 : Int, ∃ x : OA, ∃ ap ag : Nat, ∃ cd : Int, cellsAt a ⟨cu, 0, none⟩ 0 [(Iv bu), (Iv b4), (.slice x ap ag), (Iv cd)] ∧
 (CP N_law23_same #[(.agg #[Iv bt, Iv b3, .slice v ao af, Iv cc]), (.agg #[Iv bu, Iv b4, .slice x ap ag, Iv cd])] bk fun c2 bl =>
 ∃ db : Bool, c2 = .returned (.bool db) ∧
 (KeepsB a6 a bl ∧ (bsplit db
 ((CP N_roll_Same #[(.slice ck cm cl), (.slice bh bj bi)] bl fun c3 bm =>
 ∃ dc : Bool, c3 = .returned (.bool dc) ∧
 (KeepsB a6 a bm ∧ (bsplit dc
 ((a6 a7 ∧
 (∃ bv b5 : Int, ∃ y : OA, ∃ aq ah : Nat, ∃ ce : Int, cellsAt a ⟨a7, 0, none⟩ 0 [(Iv bv), (Iv b5), (.slice y aq ah), (Iv ce)] ∧
 (a6 a7 ∧
 (∃ bw b6 : Int, ∃ z : OA, ∃ ar ai : Nat, ∃ cf : Int, cellsAt a ⟨a7, 0, none⟩ 0 [(Iv bw), (Iv b6), (.slice z ar ai), (Iv cf)] ∧
 (CP N_unack_Valid #[(.agg #[Iv bv, Iv b5, .slice y aq ah, Iv ce])] bm fun c4 co =>
 ∃ dd : Bool, c4 = .returned (.bool dd) ∧
 (KeepsB a6 a co ∧ (CP N_ref23_Valid #[(.agg #[Iv bw, Iv b6, .slice z ar ai, Iv cf])] co fun c5 bn =>
 ∃ de : Bool, c5 = .returned (.bool de) ∧
 (KeepsB a6 a bn ∧ (bsplit (dd == de)
 ((a6 a7 ∧
 (∃ ax az : Int, ∃ b : OA, ∃ f d : Nat, ∃ a4 : Int, cellsAt a ⟨a7, 0, none⟩ 0 [(Iv ax), (Iv az), (.slice b f d), (Iv a4)] ∧
 (a6 a7 ∧
 (∃ ay a0 : Int, ∃ c : OA, ∃ g e : Nat, ∃ a5 : Int, cellsAt a ⟨a7, 0, none⟩ 0 [(Iv ay), (Iv a0), (.slice c g e), (Iv a5)] ∧
 (CP N_unack_Waiting #[(.agg #[Iv ax, Iv az, .slice b f d, Iv a4])] bn fun c6 cp =>
 ∃ df : Int, c6 = .returned (Iv df) ∧
 (KeepsB a6 a cp ∧ (CP N_ref23_Waiting #[(.agg #[Iv ay, Iv a0, .slice c g e, Iv a5])] cp fun cv dk =>
 ∃ cg : Int, cv = .returned (Iv cg) ∧
 (kLet (decide (df = cg)) fun dw =>
 R (.bool dw) dk)))))))))
 (R (.bool false) bn)))))))))))
 (R (.bool false) bm)))))
 (R (.bool false) bl)))))))))
 (R (.bool false) bk)))))))
 (R (.bool false) a)))
 (R (.bool false) a)))))))))))))))))))))
theorem F_law23_agree_ok {R : EP} (c_0 c_1 : Int) (c_2_a : OA) (c_2_l c_2_c : Nat) (c_3 : Int) (data_a : OA) (data_l data_c : Nat) (size : Int) (w : World) (h : F_law23_agree c_0 c_1 c_2_a c_2_l c_2_c c_3 data_a data_l data_c size w fun v w' => R (.returned v) w') : CP N_law23_agree #[(.agg #[Iv c_0, Iv c_1, .slice c_2_a c_2_l c_2_c, Iv c_3]), (.slice data_a data_l data_c), (Iv size)] w R :=
 calls_of (k := TTk) (h := h_law23_agree) (f := 11) follows_ok Tryz.func11 (Eq.mpr (by kernel_rfl) h)

def h_ref23_Submit : H := (.seq .reg (.seq (.block (.seq .reg (.cond (.seq .reg .leaf) (.cut [(11, .p .bool)] [11, 12, 13, 14, 15, 16, 17, 18, 19] .reg (.cond (.seq .reg .leaf) (.seq .reg (.cond (.seq .reg .leaf) .leaf))))))) (.seq .reg (.seq .reg .leaf))))
def F_ref23_Submit (c_0 c_1 : Int) (c_2_a : OA) (c_2_l c_2_c : Nat) (c_3 : Int) (data_a : OA) (data_l data_c : Nat) (w : World) (R : Value → WP) : Prop :=
 (kAlloc w #[(Iv c_0), (Iv c_1), (.slice c_2_a c_2_l c_2_c), (Iv c_3)] Ty_api_Cutter fun a2 b4 =>
 (kAlloc b4 #[Iv (0 : Int), Iv (0 : Int), .slice none 0 0, Iv (0 : Int)] Ty_api_Cutter fun a br =>
 (∃ a8 a9 : Int, ∃ ab : OA, ∃ ad ac : Nat, ∃ ba : Int, cellsAt br ⟨a2, 0, none⟩ 0 [(Iv a8), (Iv a9), (.slice ab ad ac), (Iv ba)] ∧
 (CP N_ref23_Valid #[(.agg #[Iv a8, Iv a9, .slice ab ad ac, Iv ba])] br fun b3 a1 =>
 ∃ b7 : Bool, b3 = .returned (.bool b7) ∧
 (bsplit (!b7)
 ((∃ an ar : Int, ∃ k : OA, ∃ s o : Nat, ∃ ax : Int, cellsAt a1 ⟨a2, 0, none⟩ 0 [(Iv an), (Iv ar), (.slice k s o), (Iv ax)] ∧
 (sxStore a1 ⟨a, 0, none⟩ 0 [(Iv an), (Iv ar), (.slice k s o), (Iv ax)] fun bs =>
 (∃ a3 a4 : Int, ∃ y : OA, ∃ aa z : Nat, ∃ a5 : Int, cellsAt bs ⟨a, 0, none⟩ 0 [(Iv a3), (Iv a4), (.slice y aa z), (Iv a5)] ∧
 R (.tuple #[(.agg #[Iv a3, Iv a4, .slice y aa z, Iv a5]), (Iv (1 : Int))]) bs))))
 ((∃ bz : Bool → WP,
 (∀ (_ : Env) (bw : Bool) (x : World), bz bw x →
 (bsplit bw
 ((∃ ao au : Int, ∃ l : OA, ∃ t p : Nat, ∃ ay : Int, cellsAt x ⟨a2, 0, none⟩ 0 [(Iv ao), (Iv au), (.slice l t p), (Iv ay)] ∧
 (sxStore x ⟨a, 0, none⟩ 0 [(Iv ao), (Iv au), (.slice l t p), (Iv ay)] fun bt =>
 (∃ ae ah : Int, ∃ b : OA, ∃ h e : Nat, ∃ ak : Int, cellsAt bt ⟨a, 0, none⟩ 0 [(Iv ae), (Iv ah), (.slice b h e), (Iv ak)] ∧
 R (.tuple #[(.agg #[Iv ae, Iv ah, .slice b h e, Iv ak]), (Iv (2 : Int))]) bt))))
 ((kLdS x ⟨a2, 2, none⟩ fun _ bx _ =>
 (kLet (decide ((bx : Int) = (256 : Int))) fun b6 =>
 (bsplit b6
 ((∃ ap av : Int, ∃ m : OA, ∃ u q : Nat, ∃ az : Int, cellsAt x ⟨a2, 0, none⟩ 0 [(Iv ap), (Iv av), (.slice m u q), (Iv az)] ∧
 (sxStore x ⟨a, 0, none⟩ 0 [(Iv ap), (Iv av), (.slice m u q), (Iv az)] fun bu =>
 (∃ af ai : Int, ∃ c : OA, ∃ i f : Nat, ∃ al : Int, cellsAt bu ⟨a, 0, none⟩ 0 [(Iv af), (Iv ai), (.slice c i f), (Iv al)] ∧
 R (.tuple #[(.agg #[Iv af, Iv ai, .slice c i f, Iv al]), (Iv (13 : Int))]) bu))))
 ((kAlloc x #[] Ty_S_uint8 fun b0 bv =>
 (kLdS bv ⟨a2, 2, none⟩ fun bb bj bf =>
 (AppP Tryz.prog #[Ty_S_S_uint8, Ty_S_S_uint8] Ty_S_S_uint8 #[(.slice (some ⟨b0, 0, none⟩) 0 0), (.slice bb bj bf)] bv fun bc bk bg b5 =>
 (kAlloc b5 #[] Ty_uint8 fun b1 bn =>
 (AppP Tryz.prog #[Ty_S_uint8, Ty_S_uint8] Ty_S_uint8 #[(.slice (some ⟨b1, 0, none⟩) 0 0), (.slice data_a data_l data_c)] bn fun bd bl bh bo =>
 (kAlloc bo #[(.slice bd bl bh)] Ty_S_uint8 fun b2 bp =>
 (AppP Tryz.prog #[Ty_S_S_uint8, Ty_S_S_uint8] Ty_S_S_uint8 #[(.slice bc bk bg), (.slice (some ⟨b2, 0, none⟩) 1 1)] bp fun be bm bi bq =>
 (kSet bq ⟨a2, 2, none⟩ (.slice be bm bi) fun a6 =>
 (∃ aq aw : Int, ∃ n : OA, ∃ v r : Nat, ∃ a0 : Int, cellsAt a6 ⟨a2, 0, none⟩ 0 [(Iv aq), (Iv aw), (.slice n v r), (Iv a0)] ∧
 (sxStore a6 ⟨a, 0, none⟩ 0 [(Iv aq), (Iv aw), (.slice n v r), (Iv a0)] fun a7 =>
 (∃ ag aj : Int, ∃ d : OA, ∃ j g : Nat, ∃ am : Int, cellsAt a7 ⟨a, 0, none⟩ 0 [(Iv ag), (Iv aj), (.slice d j g), (Iv am)] ∧
 R (.tuple #[(.agg #[Iv ag, Iv aj, .slice d j g, Iv am]), (Iv (0 : Int))]) a7)))))))))))))))))) ∧
 (bsplit (decide ((data_l : Int) < (1 : Int)))
 (bz true a1)
 ((kLet (decide ((data_l : Int) > (2054 : Int))) fun b8 =>
 bz b8 a1))))))))))
theorem F_ref23_Submit_ok {R : EP} (c_0 c_1 : Int) (c_2_a : OA) (c_2_l c_2_c : Nat) (c_3 : Int) (data_a : OA) (data_l data_c : Nat) (w : World) (h : F_ref23_Submit c_0 c_1 c_2_a c_2_l c_2_c c_3 data_a data_l data_c w fun v w' => R (.returned v) w') : CP N_ref23_Submit #[(.agg #[Iv c_0, Iv c_1, .slice c_2_a c_2_l c_2_c, Iv c_3]), (.slice data_a data_l data_c)] w R :=
 calls_of (k := TTk) (h := h_ref23_Submit) (f := 12) follows_ok Tryz.func12 (Eq.mpr (by kernel_rfl) h)

def h_unack_Tick : H := (.seq .reg (.seq .reg (.seq (.seq .reg (.cond (.seq .reg .leaf) .leaf)) (.seq (.seq .reg (.cond (.seq .reg (.seq .reg (.cond .reg .leaf))) .leaf)) (.seq .reg .leaf)))))
def F_unack_Tick (r_0 r_1 r_2 r_3 r_4 r_5 r_6 r_7 r_8 r_9 r_10 r_11 : Int) (r_12 : Bool) (r_13_a : OA) (r_13_l r_13_c : Nat) (w : World) (R : Value → WP) : Prop :=
 (kAlloc w #[(Iv r_0), (Iv r_1), (Iv r_2), (Iv r_3), (Iv r_4), (Iv r_5), (Iv r_6), (Iv r_7), (Iv r_8), (Iv r_9), (Iv r_10), (Iv r_11), (.bool r_12), (.slice r_13_a r_13_l r_13_c)] Ty_api_Receiver fun gn gh =>
 (kAlloc gh #[Iv (0 : Int), Iv (0 : Int), Iv (0 : Int), Iv (0 : Int), Iv (0 : Int), Iv (0 : Int), Iv (0 : Int), Iv (0 : Int), Iv (0 : Int), Iv (0 : Int), Iv (0 : Int), Iv (0 : Int), .bool false, .slice none 0 0] Ty_api_Receiver fun ap gc =>
 (∃ fu fv fw fx fy fz f0 f1 f2 f3 ee ef : Int, ∃ eg : Bool, ∃ aq : OA, ∃ au ar : Nat, cellsAt gc ⟨gn, 0, none⟩ 0 [(Iv fu), (Iv fv), (Iv fw), (Iv fx), (Iv fy), (Iv fz), (Iv f0), (Iv f1), (Iv f2), (Iv f3), (Iv ee), (Iv ef), (.bool eg), (.slice aq au ar)] ∧
 (CP N_own_Receiver #[(.agg #[Iv fu, Iv fv, Iv fw, Iv fx, Iv fy, Iv fz, Iv f0, Iv f1, Iv f2, Iv f3, Iv ee, Iv ef, .bool eg, .slice aq au ar])] gc fun gg gi =>
 ∃ b1 b9 cg co cw c4 dc dk dt d1 aw a5 : Int, ∃ bd : Bool, ∃ b : OA, ∃ r j : Nat, gg = .returned (.agg #[Iv b1, Iv b9, Iv cg, Iv co, Iv cw, Iv c4, Iv dc, Iv dk, Iv dt, Iv d1, Iv aw, Iv a5, .bool bd, .slice b r j]) ∧
 (kAlloc gi #[Iv (0 : Int), Iv (0 : Int), Iv (0 : Int), Iv (0 : Int), Iv (0 : Int), Iv (0 : Int), Iv (0 : Int), Iv (0 : Int), Iv (0 : Int), Iv (0 : Int), Iv (0 : Int), Iv (0 : Int), .bool false, .slice none 0 0] Ty_api_Receiver fun a gj =>
 (sxStore gj ⟨a, 0, none⟩ 0 [(Iv b1), (Iv b9), (Iv cg), (Iv co), (Iv cw), (Iv c4), (Iv dc), (Iv dk), (Iv dt), (Iv d1), (Iv aw), (Iv a5), (.bool bd), (.slice b r j)] fun gd =>
 (∃ d9 eh em er ew e1 e6 fb fg fl bl bq : Int, ∃ bv : Bool, ∃ aa : OA, ∃ ak af : Nat, cellsAt gd ⟨gn, 0, none⟩ 0 [(Iv d9), (Iv eh), (Iv em), (Iv er), (Iv ew), (Iv e1), (Iv e6), (Iv fb), (Iv fg), (Iv fl), (Iv bl), (Iv bq), (.bool bv), (.slice aa ak af)] ∧
 (CP N_receiver_Valid #[(.agg #[Iv d9, Iv eh, Iv em, Iv er, Iv ew, Iv e1, Iv e6, Iv fb, Iv fg, Iv fl, Iv bl, Iv bq, .bool bv, .slice aa ak af])] gd fun f4 av =>
 ∃ go : Bool, f4 = .returned (.bool go) ∧
 (bsplit (!go)
 ((∃ ea ei en es ex e2 e7 fc fh fm bm br : Int, ∃ bw : Bool, ∃ ab : OA, ∃ al ag : Nat, cellsAt av ⟨a, 0, none⟩ 0 [(Iv ea), (Iv ei), (Iv en), (Iv es), (Iv ex), (Iv e2), (Iv e7), (Iv fc), (Iv fh), (Iv fm), (Iv bm), (Iv br), (.bool bw), (.slice ab al ag)] ∧
 (sxStore av ⟨ap, 0, none⟩ 0 [(Iv ea), (Iv ei), (Iv en), (Iv es), (Iv ex), (Iv e2), (Iv e7), (Iv fc), (Iv fh), (Iv fm), (Iv bm), (Iv br), (.bool bw), (.slice ab al ag)] fun ge =>
 (∃ b2 ca ch cp cx c5 dd dl du d2 ax a6 : Int, ∃ be : Bool, ∃ c : OA, ∃ s k : Nat, cellsAt ge ⟨ap, 0, none⟩ 0 [(Iv b2), (Iv ca), (Iv ch), (Iv cp), (Iv cx), (Iv c5), (Iv dd), (Iv dl), (Iv du), (Iv d2), (Iv ax), (Iv a6), (.bool be), (.slice c s k)] ∧
 R (.tuple #[(.agg #[Iv b2, Iv ca, Iv ch, Iv cp, Iv cx, Iv c5, Iv dd, Iv dl, Iv du, Iv d2, Iv ax, Iv a6, .bool be, .slice c s k]), (Iv (1 : Int))]) ge))))
 ((kLd av ⟨a, 10, none⟩ .i64 fun gp =>
 (bsplit (decide (gp > (0 : Int)))
 ((kLd av ⟨a, 10, none⟩ .i64 fun gk =>
 (kW .i64 (gk - (1 : Int)) fun gl =>
 (kSet av ⟨a, 10, none⟩ (Iv gl) fun fq =>
 (kLd fq ⟨a, 10, none⟩ .i64 fun gm =>
 (bsplit (decide (gm = (0 : Int)))
 ((CP N_unack_expire #[(.pointer (some ⟨a, 0, none⟩))] fq fun f5 gf =>
 f5 = .returned (.tuple #[]) ∧
 (∃ eb ej eo et ey e3 e8 fd fi fn bn bs : Int, ∃ bx : Bool, ∃ ac : OA, ∃ am ah : Nat, cellsAt gf ⟨a, 0, none⟩ 0 [(Iv eb), (Iv ej), (Iv eo), (Iv et), (Iv ey), (Iv e3), (Iv e8), (Iv fd), (Iv fi), (Iv fn), (Iv bn), (Iv bs), (.bool bx), (.slice ac am ah)] ∧
 (CP N_unack_plain #[(.agg #[Iv eb, Iv ej, Iv eo, Iv et, Iv ey, Iv e3, Iv e8, Iv fd, Iv fi, Iv fn, Iv bn, Iv bs, .bool bx, .slice ac am ah])] gf fun f6 f9 =>
 ∃ b3 cb ci cq cy c6 de dm dv d3 ay a7 : Int, ∃ bf : Bool, ∃ d : OA, ∃ t l : Nat, f6 = .returned (.agg #[Iv b3, Iv cb, Iv ci, Iv cq, Iv cy, Iv c6, Iv de, Iv dm, Iv dv, Iv d3, Iv ay, Iv a7, .bool bf, .slice d t l]) ∧
 (sxStore f9 ⟨ap, 0, none⟩ 0 [(Iv b3), (Iv cb), (Iv ci), (Iv cq), (Iv cy), (Iv c6), (Iv de), (Iv dm), (Iv dv), (Iv d3), (Iv ay), (Iv a7), (.bool bf), (.slice d t l)] fun fr =>
 (∃ b4 cc cj cr cz c7 df dn dw d4 az a8 : Int, ∃ bg : Bool, ∃ e : OA, ∃ u m : Nat, cellsAt fr ⟨ap, 0, none⟩ 0 [(Iv b4), (Iv cc), (Iv cj), (Iv cr), (Iv cz), (Iv c7), (Iv df), (Iv dn), (Iv dw), (Iv d4), (Iv az), (Iv a8), (.bool bg), (.slice e u m)] ∧
 R (.tuple #[(.agg #[Iv b4, Iv cc, Iv cj, Iv cr, Iv cz, Iv c7, Iv df, Iv dn, Iv dw, Iv d4, Iv az, Iv a8, .bool bg, .slice e u m]), (Iv (0 : Int))]) fr))))))
 ((∃ ec ek ep eu ez e4 e9 fe fj fo bo bt : Int, ∃ bz : Bool, ∃ ad : OA, ∃ an ai : Nat, cellsAt fq ⟨a, 0, none⟩ 0 [(Iv ec), (Iv ek), (Iv ep), (Iv eu), (Iv ez), (Iv e4), (Iv e9), (Iv fe), (Iv fj), (Iv fo), (Iv bo), (Iv bt), (.bool bz), (.slice ad an ai)] ∧
 (CP N_unack_plain #[(.agg #[Iv ec, Iv ek, Iv ep, Iv eu, Iv ez, Iv e4, Iv e9, Iv fe, Iv fj, Iv fo, Iv bo, Iv bt, .bool bz, .slice ad an ai])] fq fun f7 ga =>
 ∃ b5 cd ck cs c0 c8 dg dp dx d5 a0 a9 : Int, ∃ bh : Bool, ∃ f : OA, ∃ v n : Nat, f7 = .returned (.agg #[Iv b5, Iv cd, Iv ck, Iv cs, Iv c0, Iv c8, Iv dg, Iv dp, Iv dx, Iv d5, Iv a0, Iv a9, .bool bh, .slice f v n]) ∧
 (sxStore ga ⟨ap, 0, none⟩ 0 [(Iv b5), (Iv cd), (Iv ck), (Iv cs), (Iv c0), (Iv c8), (Iv dg), (Iv dp), (Iv dx), (Iv d5), (Iv a0), (Iv a9), (.bool bh), (.slice f v n)] fun fs =>
 (∃ b6 ce cl ct c1 c9 dh dq dy d6 a1 ba : Int, ∃ bi : Bool, ∃ g : OA, ∃ x o : Nat, cellsAt fs ⟨ap, 0, none⟩ 0 [(Iv b6), (Iv ce), (Iv cl), (Iv ct), (Iv c1), (Iv c9), (Iv dh), (Iv dq), (Iv dy), (Iv d6), (Iv a1), (Iv ba), (.bool bi), (.slice g x o)] ∧
 R (.tuple #[(.agg #[Iv b6, Iv ce, Iv cl, Iv ct, Iv c1, Iv c9, Iv dh, Iv dq, Iv dy, Iv d6, Iv a1, Iv ba, .bool bi, .slice g x o]), (Iv (0 : Int))]) fs)))))))))))
 ((∃ ed el eq ev e0 e5 fa ff fk fp bp bu : Int, ∃ b0 : Bool, ∃ ae : OA, ∃ ao aj : Nat, cellsAt av ⟨a, 0, none⟩ 0 [(Iv ed), (Iv el), (Iv eq), (Iv ev), (Iv e0), (Iv e5), (Iv fa), (Iv ff), (Iv fk), (Iv fp), (Iv bp), (Iv bu), (.bool b0), (.slice ae ao aj)] ∧
 (CP N_unack_plain #[(.agg #[Iv ed, Iv el, Iv eq, Iv ev, Iv e0, Iv e5, Iv fa, Iv ff, Iv fk, Iv fp, Iv bp, Iv bu, .bool b0, .slice ae ao aj])] av fun f8 gb =>
 ∃ b7 cf cm cu c2 da di dr dz d7 a2 bb : Int, ∃ bj : Bool, ∃ h : OA, ∃ y p : Nat, f8 = .returned (.agg #[Iv b7, Iv cf, Iv cm, Iv cu, Iv c2, Iv da, Iv di, Iv dr, Iv dz, Iv d7, Iv a2, Iv bb, .bool bj, .slice h y p]) ∧
 (sxStore gb ⟨ap, 0, none⟩ 0 [(Iv b7), (Iv cf), (Iv cm), (Iv cu), (Iv c2), (Iv da), (Iv di), (Iv dr), (Iv dz), (Iv d7), (Iv a2), (Iv bb), (.bool bj), (.slice h y p)] fun ft =>
 (∃ b8 a4 cn cv c3 db dj ds d0 d8 a3 bc : Int, ∃ bk : Bool, ∃ i : OA, ∃ z q : Nat, cellsAt ft ⟨ap, 0, none⟩ 0 [(Iv b8), (Iv a4), (Iv cn), (Iv cv), (Iv c3), (Iv db), (Iv dj), (Iv ds), (Iv d0), (Iv d8), (Iv a3), (Iv bc), (.bool bk), (.slice i z q)] ∧
 R (.tuple #[(.agg #[Iv b8, Iv a4, Iv cn, Iv cv, Iv c3, Iv db, Iv dj, Iv ds, Iv d0, Iv d8, Iv a3, Iv bc, .bool bk, .slice i z q]), (Iv (0 : Int))]) ft)))))))))))))))))
theorem F_unack_Tick_ok {R : EP} (r_0 r_1 r_2 r_3 r_4 r_5 r_6 r_7 r_8 r_9 r_10 r_11 : Int) (r_12 : Bool) (r_13_a : OA) (r_13_l r_13_c : Nat) (w : World) (h : F_unack_Tick r_0 r_1 r_2 r_3 r_4 r_5 r_6 r_7 r_8 r_9 r_10 r_11 r_12 r_13_a r_13_l r_13_c w fun v w' => R (.returned v) w') : CP N_unack_Tick #[(.agg #[Iv r_0, Iv r_1, Iv r_2, Iv r_3, Iv r_4, Iv r_5, Iv r_6, Iv r_7, Iv r_8, Iv r_9, Iv r_10, Iv r_11, .bool r_12, .slice r_13_a r_13_l r_13_c])] w R :=
 calls_of (k := TTk) (h := h_unack_Tick) (f := 13) follows_ok Tryz.func13 (Eq.mpr (by kernel_rfl) h)

def h_ref23_Tick : H := (.seq .reg (.seq (.seq .reg (.cond (.seq .reg .leaf) .leaf)) (.seq (.seq .reg (.cond (.seq .reg .leaf) .leaf)) (.seq .reg (.seq (.seq .reg (.cond (.seq .reg .leaf) .leaf)) (.seq .reg (.seq .reg (.seq (.seq .reg (.block (.loop [(5, .p .slice), (6, .p (.int .i64))] [5, 6, 29, 30, 31, 32, 33, 34, 35, 36, 37, 38, 39, 40, 41, 42, 43, 44, 45, 46, 47, 48, 49, 50, 51, 52, 53] (.seq (.seq .reg (.cond .leaf .leaf)) (.seq (.block (.seq (.draw .blk (.one 0 .pre (.one 1 .pre (.one 2 .pre (.one 3 .pre (.one 4 .pre (.one 5 .pre (.one 6 .pre (.one 8 .stable (.one 7 .keep (.one 9 .stable .nil))))))))))) (.cond .reg .leaf))) .reg))))) (.seq .reg (.cut [(5, .p .slice)] [5, 58, 59, 60, 61, 62, 63, 64, 65, 66, 67, 68, 69, 70, 71, 72, 73, 74, 75, 76, 77, 78, 79, 80, 81, 82] (.block (.loop [(5, .p .slice)] [5, 58, 59, 60, 61, 62, 63, 64, 65, 66, 67, 68, 69, 70, 71, 72, 73, 74, 75, 76, 77, 78, 79, 80, 81, 82] (.cut [] [58, 59, 60, 61, 62, 63, 64, 65, 66, 67, 68, 69, 70, 71, 72, 73, 74, 75] (.seq (.draw .no (.one 0 .stable (.one 1 .stable (.one 2 .stable (.one 3 .stable (.one 4 .stable (.one 5 .stable (.one 6 .stable (.one 7 .stable (.one 8 .stable (.one 9 .stable (.one 10 .stable (.one 11 .stable (.one 12 .stable (.one 13 .stable (.one 14 .stable (.one 15 .stable (.one 16 .stable (.one 17 .stable .nil))))))))))))))))))) (.cond .leaf .leaf)) (.block (.seq .reg .reg))))) (.seq .reg (.seq (.seq .reg (.cond .reg .leaf)) (.seq .reg .leaf)))))))))))))
def F_ref23_Tick (r_0 r_1 r_2 r_3 r_4 r_5 r_6 r_7 r_8 r_9 r_10 r_11 : Int) (r_12 : Bool) (r_13_a : OA) (r_13_l r_13_c : Nat) (w : World) (R : Value → WP) : Prop :=
 (kAlloc w #[(Iv r_0), (Iv r_1), (Iv r_2), (Iv r_3), (Iv r_4), (Iv r_5), (Iv r_6), (Iv r_7), (Iv r_8), (Iv r_9), (Iv r_10), (Iv r_11), (.bool r_12), (.slice r_13_a r_13_l r_13_c)] Ty_api_Receiver fun g j5 =>
 (kAlloc j5 #[Iv (0 : Int), Iv (0 : Int), Iv (0 : Int), Iv (0 : Int), Iv (0 : Int), Iv (0 : Int), Iv (0 : Int), Iv (0 : Int), Iv (0 : Int), Iv (0 : Int), Iv (0 : Int), Iv (0 : Int), .bool false, .slice none 0 0] Ty_api_Receiver fun j jf =>
 (∃ ij ik il im io ip iq ir it iu f5 f6 : Int, ∃ f7 : Bool, ∃ bj : OA, ∃ bl bk : Nat, cellsAt jf ⟨g, 0, none⟩ 0 [(Iv ij), (Iv ik), (Iv il), (Iv im), (Iv io), (Iv ip), (Iv iq), (Iv ir), (Iv it), (Iv iu), (Iv f5), (Iv f6), (.bool f7), (.slice bj bl bk)] ∧
 (CP N_ref21_Valid #[(.agg #[Iv ij, Iv ik, Iv il, Iv im, Iv io, Iv ip, Iv iq, Iv ir, Iv it, Iv iu, Iv f5, Iv f6, .bool f7, .slice bj bl bk])] jf fun j4 bm =>
 ∃ kf : Bool, j4 = .returned (.bool kf) ∧
 (bsplit (!kf)
 ((∃ fw f8 gf go gw g4 hc hk hs h0 ch cq : Int, ∃ cz : Bool, ∃ ap : OA, ∃ a7 az : Nat, cellsAt bm ⟨g, 0, none⟩ 0 [(Iv fw), (Iv f8), (Iv gf), (Iv go), (Iv gw), (Iv g4), (Iv hc), (Iv hk), (Iv hs), (Iv h0), (Iv ch), (Iv cq), (.bool cz), (.slice ap a7 az)] ∧
 (sxStore bm ⟨j, 0, none⟩ 0 [(Iv fw), (Iv f8), (Iv gf), (Iv go), (Iv gw), (Iv g4), (Iv hc), (Iv hk), (Iv hs), (Iv h0), (Iv ch), (Iv cq), (.bool cz), (.slice ap a7 az)] fun jl =>
 (∃ df dp dw d5 ee en ew e5 fe fn bn bx : Int, ∃ b7 : Bool, ∃ k : OA, ∃ ad t : Nat, cellsAt jl ⟨j, 0, none⟩ 0 [(Iv df), (Iv dp), (Iv dw), (Iv d5), (Iv ee), (Iv en), (Iv ew), (Iv e5), (Iv fe), (Iv fn), (Iv bn), (Iv bx), (.bool b7), (.slice k ad t)] ∧
 R (.tuple #[(.agg #[Iv df, Iv dp, Iv dw, Iv d5, Iv ee, Iv en, Iv ew, Iv e5, Iv fe, Iv fn, Iv bn, Iv bx, .bool b7, .slice k ad t]), (Iv (1 : Int))]) jl))))
 ((kLd bm ⟨g, 10, none⟩ .i64 fun kh =>
 (bsplit (decide (kh = (0 : Int)))
 ((∃ fx f9 gg gp gx g5 hd hl ht h1 ci cr : Int, ∃ c0 : Bool, ∃ aq : OA, ∃ a8 a0 : Nat, cellsAt bm ⟨g, 0, none⟩ 0 [(Iv fx), (Iv f9), (Iv gg), (Iv gp), (Iv gx), (Iv g5), (Iv hd), (Iv hl), (Iv ht), (Iv h1), (Iv ci), (Iv cr), (.bool c0), (.slice aq a8 a0)] ∧
 (CP N_ref23_quiet #[(.agg #[Iv fx, Iv f9, Iv gg, Iv gp, Iv gx, Iv g5, Iv hd, Iv hl, Iv ht, Iv h1, Iv ci, Iv cr, .bool c0, .slice aq a8 a0])] bm fun i0 j6 =>
 ∃ dg dq dx d6 ef eo ex e6 ff fo bo bz : Int, ∃ b8 : Bool, ∃ l : OA, ∃ ae u : Nat, i0 = .returned (.agg #[Iv dg, Iv dq, Iv dx, Iv d6, Iv ef, Iv eo, Iv ex, Iv e6, Iv ff, Iv fo, Iv bo, Iv bz, .bool b8, .slice l ae u]) ∧
 (sxStore j6 ⟨j, 0, none⟩ 0 [(Iv dg), (Iv dq), (Iv dx), (Iv d6), (Iv ef), (Iv eo), (Iv ex), (Iv e6), (Iv ff), (Iv fo), (Iv bo), (Iv bz), (.bool b8), (.slice l ae u)] fun jm =>
 (∃ dh dr dy d7 eg ep ey e7 fg fp bp b0 : Int, ∃ b9 : Bool, ∃ m : OA, ∃ af v : Nat, cellsAt jm ⟨j, 0, none⟩ 0 [(Iv dh), (Iv dr), (Iv dy), (Iv d7), (Iv eg), (Iv ep), (Iv ey), (Iv e7), (Iv fg), (Iv fp), (Iv bp), (Iv b0), (.bool b9), (.slice m af v)] ∧
 R (.tuple #[(.agg #[Iv dh, Iv dr, Iv dy, Iv d7, Iv eg, Iv ep, Iv ey, Iv e7, Iv fg, Iv fp, Iv bp, Iv b0, .bool b9, .slice m af v]), (Iv (0 : Int))]) jm)))))
 ((kLd bm ⟨g, 10, none⟩ .i64 fun j8 =>
 (kW .i64 (j8 - (1 : Int)) fun j9 =>
 (kSet bm ⟨g, 10, none⟩ (Iv j9) fun dd =>
 (kLd dd ⟨g, 10, none⟩ .i64 fun ka =>
 (bsplit (decide (ka > (0 : Int)))
 ((∃ fy ga gh gq gy g6 he hm hu h2 cj cs : Int, ∃ c1 : Bool, ∃ ar : OA, ∃ a9 a1 : Nat, cellsAt dd ⟨g, 0, none⟩ 0 [(Iv fy), (Iv ga), (Iv gh), (Iv gq), (Iv gy), (Iv g6), (Iv he), (Iv hm), (Iv hu), (Iv h2), (Iv cj), (Iv cs), (.bool c1), (.slice ar a9 a1)] ∧
 (CP N_ref23_quiet #[(.agg #[Iv fy, Iv ga, Iv gh, Iv gq, Iv gy, Iv g6, Iv he, Iv hm, Iv hu, Iv h2, Iv cj, Iv cs, .bool c1, .slice ar a9 a1])] dd fun i1 j7 =>
 ∃ di ds dz d8 eh eq ez e8 fh fq bq b1 : Int, ∃ ca : Bool, ∃ n : OA, ∃ ag x : Nat, i1 = .returned (.agg #[Iv di, Iv ds, Iv dz, Iv d8, Iv eh, Iv eq, Iv ez, Iv e8, Iv fh, Iv fq, Iv bq, Iv b1, .bool ca, .slice n ag x]) ∧
 (sxStore j7 ⟨j, 0, none⟩ 0 [(Iv di), (Iv ds), (Iv dz), (Iv d8), (Iv eh), (Iv eq), (Iv ez), (Iv e8), (Iv fh), (Iv fq), (Iv bq), (Iv b1), (.bool ca), (.slice n ag x)] fun jn =>
 (∃ dj dt d0 d9 ei er e0 e9 fi fr br b2 : Int, ∃ cb : Bool, ∃ o : OA, ∃ ah y : Nat, cellsAt jn ⟨j, 0, none⟩ 0 [(Iv dj), (Iv dt), (Iv d0), (Iv d9), (Iv ei), (Iv er), (Iv e0), (Iv e9), (Iv fi), (Iv fr), (Iv br), (Iv b2), (.bool cb), (.slice o ah y)] ∧
 R (.tuple #[(.agg #[Iv dj, Iv dt, Iv d0, Iv d9, Iv ei, Iv er, Iv e0, Iv e9, Iv fi, Iv fr, Iv br, Iv b2, .bool cb, .slice o ah y]), (Iv (0 : Int))]) jn)))))
 ((∃ fz gb gi gr gz g7 hf hn hv h3 ck ct : Int, ∃ c2 : Bool, ∃ au : OA, ∃ ba a2 : Nat, cellsAt dd ⟨g, 0, none⟩ 0 [(Iv fz), (Iv gb), (Iv gi), (Iv gr), (Iv gz), (Iv g7), (Iv hf), (Iv hn), (Iv hv), (Iv h3), (Iv ck), (Iv ct), (.bool c2), (.slice au ba a2)] ∧
 (kLd dd ⟨g, 9, none⟩ .i64 fun kb =>
 (CP N_ref23_place #[(.agg #[Iv fz, Iv gb, Iv gi, Iv gr, Iv gz, Iv g7, Iv hf, Iv hn, Iv hv, Iv h3, Iv ck, Iv ct, .bool c2, .slice au ba a2]), (Iv kb)] dd fun i2 ja =>
 ∃ i7 : Int, i2 = .returned (Iv i7) ∧
 (∃ ic : OA → Nat → Nat → Int → Nat × (WP), (ic none 0 0 (0 : Int)).2 ja ∧
 (∀ (_ : Env) (d : OA) (f : Nat) (e : Nat) (ib : Int) (bg : World), (ic d f e ib).2 bg →
 (kLdS bg ⟨g, 13, none⟩ fun _ jx _ =>
 (bsplit (decide (ib < (jx : Int)))
 ((kDrew bg fun bh =>
 (∃ kg : Nat → Prop,
 (∃ f0 gc gj gs g0 g8 hg ho hw h4 cl cu : Int, ∃ c3 : Bool, ∃ av : OA, ∃ bb a3 : Nat, cellsAt bh ⟨g, 0, none⟩ 0 [(Iv f0), (Iv gc), (Iv gj), (Iv gs), (Iv g0), (Iv g8), (Iv hg), (Iv ho), (Iv hw), (Iv h4), (Iv cl), (Iv cu), (.bool c3), (.slice av bb a3)] ∧
 (kLdS bh ⟨g, 13, none⟩ fun iv ix _ =>
 (kIx iv ix ib fun jz =>
 (kLd bh (jz.add (ib.toNat * 5)) .i64 fun kc =>
 (CP N_ref23_place #[(.agg #[Iv f0, Iv gc, Iv gj, Iv gs, Iv g0, Iv g8, Iv hg, Iv ho, Iv hw, Iv h4, Iv cl, Iv cu, .bool c3, .slice av bb a3]), (Iv kc)] bh fun i3 bi =>
 ∃ i8 : Int, i3 = .returned (Iv i8) ∧
 (KeepsB kg bh bi ∧ (bsplit (decide (i8 ≥ i7))
 ((kLdS bi ⟨g, 13, none⟩ fun iw iy _ =>
 (kIx iw iy ib fun j0 =>
 (∃ f1 : Int, ∃ gd : Bool, ∃ gk : Int, ∃ c7 : OA, ∃ c9 c8 : Nat, ∃ da : OA, ∃ dc db : Nat, cellsAt bi (j0.add (ib.toNat * 5)) 0 [(Iv f1), (.bool gd), (Iv gk), (.slice c7 c9 c8), (.slice da dc db)] ∧
 (kAlloc bi #[(Iv f1), (.bool gd), (Iv gk), (.slice c7 c9 c8), (.slice da dc db)] Ty_api_Partial fun j1 jb =>
 (AppP Tryz.prog #[Ty_S_api_Partial, Ty_S_api_Partial] Ty_S_api_Partial #[(.slice d f e), (.slice (some ⟨j1, 0, none⟩) 1 1)] jb fun h8 ia h9 jc =>
 (kW .i64 (ib + (1 : Int)) fun jv =>
 ((ic h8 ia h9 jv).2 jc ∧ (ic h8 ia h9 jv).1 < (ic d f e ib).1))))))))
 ((kW .i64 (ib + (1 : Int)) fun jw =>
 ((ic d f e jw).2 bi ∧ (ic d f e jw).1 < (ic d f e ib).1)))))))))))))
 ((kLd bg ⟨g, 9, none⟩ .i64 fun kd =>
 (kSet bg ⟨g, 6, none⟩ (Iv kd) fun jd =>
 (kSet jd ⟨g, 9, none⟩ (Iv (-1 : Int)) fun je =>
 (∃ jy : OA → Nat → Nat → WP,
 (∀ (_ : Env) (am : OA) (ao : Nat) (an : Nat) (ie : World), jy am ao an ie →
 (kSet ie ⟨g, 13, none⟩ (.slice am ao an) fun i =>
 (kLd i ⟨g, 6, none⟩ .i64 fun jr =>
 (kLd i ⟨g, 7, none⟩ .i64 fun js =>
 (bsplit (!decide (jr = js))
 ((kLd i ⟨g, 7, none⟩ .i64 fun jt =>
 (kLd i ⟨g, 3, none⟩ .i64 fun ju =>
 (kSet i ⟨g, 9, none⟩ (Iv jt) fun ji =>
 (kSet ji ⟨g, 10, none⟩ (Iv ju) fun ig =>
 (∃ f3 cp gm gu g2 ha hi hq hy h6 cn cw : Int, ∃ c5 : Bool, ∃ ax : OA, ∃ bd a5 : Nat, cellsAt ig ⟨g, 0, none⟩ 0 [(Iv f3), (Iv cp), (Iv gm), (Iv gu), (Iv g2), (Iv ha), (Iv hi), (Iv hq), (Iv hy), (Iv h6), (Iv cn), (Iv cw), (.bool c5), (.slice ax bd a5)] ∧
 (CP N_ref23_quiet #[(.agg #[Iv f3, Iv cp, Iv gm, Iv gu, Iv g2, Iv ha, Iv hi, Iv hq, Iv hy, Iv h6, Iv cn, Iv cw, .bool c5, .slice ax bd a5])] ig fun i5 jj =>
 ∃ dk du d1 ea ej es e1 fa fj fs bs b3 : Int, ∃ cc : Bool, ∃ p : OA, ∃ ai z : Nat, i5 = .returned (.agg #[Iv dk, Iv du, Iv d1, Iv ea, Iv ej, Iv es, Iv e1, Iv fa, Iv fj, Iv fs, Iv bs, Iv b3, .bool cc, .slice p ai z]) ∧
 (sxStore jj ⟨j, 0, none⟩ 0 [(Iv dk), (Iv du), (Iv d1), (Iv ea), (Iv ej), (Iv es), (Iv e1), (Iv fa), (Iv fj), (Iv fs), (Iv bs), (Iv b3), (.bool cc), (.slice p ai z)] fun ih =>
 (∃ dl dv d2 eb ek et e2 fb fk ft bt b4 : Int, ∃ cd : Bool, ∃ q : OA, ∃ aj aa : Nat, cellsAt ih ⟨j, 0, none⟩ 0 [(Iv dl), (Iv dv), (Iv d2), (Iv eb), (Iv ek), (Iv et), (Iv e2), (Iv fb), (Iv fk), (Iv ft), (Iv bt), (Iv b4), (.bool cd), (.slice q aj aa)] ∧
 R (.tuple #[(.agg #[Iv dl, Iv dv, Iv d2, Iv eb, Iv ek, Iv et, Iv e2, Iv fb, Iv fk, Iv ft, Iv bt, Iv b4, .bool cd, .slice q aj aa]), (Iv (0 : Int))]) ih)))))))))
 ((∃ f4 cx gn gv g3 hb hj hr hz h7 co cy : Int, ∃ c6 : Bool, ∃ ay : OA, ∃ be a6 : Nat, cellsAt i ⟨g, 0, none⟩ 0 [(Iv f4), (Iv cx), (Iv gn), (Iv gv), (Iv g3), (Iv hb), (Iv hj), (Iv hr), (Iv hz), (Iv h7), (Iv co), (Iv cy), (.bool c6), (.slice ay be a6)] ∧
 (CP N_ref23_quiet #[(.agg #[Iv f4, Iv cx, Iv gn, Iv gv, Iv g3, Iv hb, Iv hj, Iv hr, Iv hz, Iv h7, Iv co, Iv cy, .bool c6, .slice ay be a6])] i fun i6 jk =>
 ∃ dm bw d3 ec el eu e3 fc fl fu bu b5 : Int, ∃ ce : Bool, ∃ r : OA, ∃ ak ab : Nat, i6 = .returned (.agg #[Iv dm, Iv bw, Iv d3, Iv ec, Iv el, Iv eu, Iv e3, Iv fc, Iv fl, Iv fu, Iv bu, Iv b5, .bool ce, .slice r ak ab]) ∧
 (sxStore jk ⟨j, 0, none⟩ 0 [(Iv dm), (Iv bw), (Iv d3), (Iv ec), (Iv el), (Iv eu), (Iv e3), (Iv fc), (Iv fl), (Iv fu), (Iv bu), (Iv b5), (.bool ce), (.slice r ak ab)] fun ii =>
 (∃ dn b6 d4 ed em ev e4 fd fm fv bv bf : Int, ∃ cf : Bool, ∃ s : OA, ∃ al ac : Nat, cellsAt ii ⟨j, 0, none⟩ 0 [(Iv dn), (Iv b6), (Iv d4), (Iv ed), (Iv em), (Iv ev), (Iv e4), (Iv fd), (Iv fm), (Iv fv), (Iv bv), (Iv bf), (.bool cf), (.slice s al ac)] ∧
 R (.tuple #[(.agg #[Iv dn, Iv b6, Iv d4, Iv ed, Iv em, Iv ev, Iv e4, Iv fd, Iv fm, Iv fv, Iv bv, Iv bf, .bool cf, .slice s al ac]), (Iv (0 : Int))]) ii)))))))))) ∧
 (∃ de : OA → Nat → Nat → Nat × (WP), (de d f e).2 je ∧
 (∀ (_ : Env) (b : OA) (a : Nat) (c : Nat) (id : World), (de b a c).2 id →
 (∃ iz : WP,
 (∀ (_ : Env)  (cg : World), iz cg →
 ((0 ≤ (1 : Int) ∧ (1 : Int) ≤ ((a : Nat) : Int)) ∧ (∃ f2 ge gl gt g1 g9 hh hp hx h5 cm cv : Int, ∃ c4 : Bool, ∃ aw : OA, ∃ bc a4 : Nat, cellsAt cg ⟨g, 0, none⟩ 0 [(Iv f2), (Iv ge), (Iv gl), (Iv gt), (Iv g1), (Iv g9), (Iv hh), (Iv hp), (Iv hx), (Iv h5), (Iv cm), (Iv cv), (.bool c4), (.slice aw bc a4)] ∧
 (kLd cg ⟨g, 6, none⟩ .i64 fun jq =>
 (CP N_ref23_next #[(.agg #[Iv f2, Iv ge, Iv gl, Iv gt, Iv g1, Iv g9, Iv hh, Iv hp, Iv hx, Iv h5, Iv cm, Iv cv, .bool c4, .slice aw bc a4]), (Iv jq)] cg fun i4 jg =>
 ∃ i9 : Int, i4 = .returned (Iv i9) ∧
 (kSet jg ⟨g, 6, none⟩ (Iv i9) fun jh =>
 ((de (slAddr c ((1 : Int).toNat) 5 b) (a - (1 : Int).toNat) (c - (1 : Int).toNat)).2 jh ∧ (de (slAddr c ((1 : Int).toNat) 5 b) (a - (1 : Int).toNat) (c - (1 : Int).toNat)).1 < (de b a c).1))))))) ∧
 (kDrew id fun h =>
 (bsplit (decide ((a : Int) > (0 : Int)))
 ((kIx b a (0 : Int) fun j2 =>
 (kLd h (j2.add ((0 : Int).toNat * 5)) .i64 fun ke =>
 (kLd h ⟨g, 6, none⟩ .i64 fun jo =>
 (bsplit (decide (ke = jo))
 ((kIx b a (0 : Int) fun j3 =>
 (kLdB h ((j3.add ((0 : Int).toNat * 5)).add 1) fun jp =>
 (bsplit jp
 (iz h)
 (jy b a c h)))))
 (jy b a c h))))))
 (jy b a c h)))))))))))))))))))))))))))))))))
theorem F_ref23_Tick_ok {R : EP} (r_0 r_1 r_2 r_3 r_4 r_5 r_6 r_7 r_8 r_9 r_10 r_11 : Int) (r_12 : Bool) (r_13_a : OA) (r_13_l r_13_c : Nat) (w : World) (h : F_ref23_Tick r_0 r_1 r_2 r_3 r_4 r_5 r_6 r_7 r_8 r_9 r_10 r_11 r_12 r_13_a r_13_l r_13_c w fun v w' => R (.returned v) w') : CP N_ref23_Tick #[(.agg #[Iv r_0, Iv r_1, Iv r_2, Iv r_3, Iv r_4, Iv r_5, Iv r_6, Iv r_7, Iv r_8, Iv r_9, Iv r_10, Iv r_11, .bool r_12, .slice r_13_a r_13_l r_13_c])] w R :=
 calls_of (k := TTk) (h := h_ref23_Tick) (f := 14) follows_ok Tryz.func14 (Eq.mpr (by kernel_rfl) h)

def h_ref21_Same : H := (.seq .reg (.seq (.cut [(70, .p .bool)] [8, 9, 10, 11, 12, 13, 14, 15, 16, 17, 18, 19, 20, 21, 22, 23, 24, 25, 26, 27, 28, 29, 30, 31, 32, 33, 34, 35, 36, 37, 38, 39, 40, 41, 42, 43, 44, 45, 46, 47, 48, 49, 50, 51, 52, 53, 54, 55, 56, 57, 58, 59, 60, 61, 62, 63, 64, 65, 66, 67, 68, 69, 70] .reg (.cond (.seq .reg .leaf) .leaf)) (.seq (.seq .reg (.block (.loop [(5, .p (.int .i64))] [4, 5, 6, 7, 71, 72, 73, 74, 75, 76, 77, 78, 79, 80, 81, 82, 83, 84, 85, 86, 87, 88, 89, 90, 91, 92, 93, 94, 95, 96, 97, 98, 99, 100, 101, 102, 103, 104, 105, 106, 107, 108, 109, 110, 111, 112, 113, 114, 115, 116, 117, 118, 119, 120, 121, 122] (.seq (.seq .reg (.cond .leaf .leaf)) (.seq (.block (.cut [(6, .p .addr), (7, .p .addr)] [6, 7, 78, 79, 80, 81, 82, 83, 84, 85, 86, 87] (.draw .blk (.one 0 .stable (.one 1 .stable (.one 2 .stable (.one 3 .stable (.one 4 .stable (.one 5 .stable (.one 6 .stable (.one 7 .stable (.one 8 .stable (.one 9 .stable (.alt 10 (.one 11 .keep (.one 12 .keep (.one 13 .last .nil))) (.alt 11 (.one 10 .keep (.one 12 .keep (.one 13 .last .nil))) .endAlt))))))))))))) (.cut [(122, .p .bool)] [88, 89, 90, 91, 92, 93, 94, 95, 96, 97, 98, 99, 100, 101, 102, 103, 104, 105, 106, 107, 108, 109, 110, 111, 112, 113, 114, 115, 116, 117, 118, 119, 120, 121, 122] .reg (.cond (.seq .reg .leaf) .leaf)))) .reg))))) (.seq .reg .leaf))))
def F_ref21_Same (a_0 a_1 a_2 a_3 a_4 a_5 a_6 a_7 a_8 a_9 a_10 a_11 : Int) (a_12 : Bool) (a_13_a : OA) (a_13_l a_13_c : Nat) (b_0 b_1 b_2 b_3 b_4 b_5 b_6 b_7 b_8 b_9 b_10 b_11 : Int) (b_12 : Bool) (b_13_a : OA) (b_13_l b_13_c : Nat) (w : World) (R : Value → WP) : Prop :=
 (kAlloc w #[(Iv a_0), (Iv a_1), (Iv a_2), (Iv a_3), (Iv a_4), (Iv a_5), (Iv a_6), (Iv a_7), (Iv a_8), (Iv a_9), (Iv a_10), (Iv a_11), (.bool a_12), (.slice a_13_a a_13_l a_13_c)] Ty_api_Receiver fun aa cd =>
 (kAlloc cd #[(Iv b_0), (Iv b_1), (Iv b_2), (Iv b_3), (Iv b_4), (Iv b_5), (Iv b_6), (Iv b_7), (Iv b_8), (Iv b_9), (Iv b_10), (Iv b_11), (.bool b_12), (.slice b_13_a b_13_l b_13_c)] Ty_api_Receiver fun d a =>
 (∃ ai : Bool → WP,
 (∀ (_ : Env) (ap : Bool) (a1 : World), ai ap a1 →
 (bsplit ap
 (R (.bool false) a1)
 ((∃ bl : Int → Nat × (WP), (bl (0 : Int)).2 a1 ∧
 (∀ (_ : Env) (ak : Int) (al : World), (bl ak).2 al →
 (kLdS al ⟨aa, 13, none⟩ fun _ bd _ =>
 (bsplit (decide (ak < (bd : Int)))
 ((∃ a0 : Addr → Addr → WP,
 (∀ (_ : Env) (k : Addr) (bk : Addr) (b : World), a0 k bk b →
 (∃ z : Bool → WP,
 (∀ (_ : Env) (aq : Bool) (ab : World), z aq ab →
 (bsplit aq
 (R (.bool false) ab)
 ((kW .i64 (ak + (1 : Int)) fun ar =>
 ((bl ar).2 ab ∧ (bl ar).1 < (bl ak).1))))) ∧
 (kLd b k .i64 fun b5 =>
 (kLd b bk .i64 fun b6 =>
 (bsplit (!decide (b5 = b6))
 (z true b)
 ((kLdB b (k.add 1) fun b7 =>
 (kLdB b (bk.add 1) fun b8 =>
 (bsplit (!(b7 == b8))
 (z true b)
 ((kLd b (k.add 2) .i64 fun b9 =>
 (kLd b (bk.add 2) .i64 fun ca =>
 (bsplit (!decide (b9 = ca))
 (z true b)
 ((kLdS b (k.add 3) fun a4 bg a8 =>
 (kLdS b (bk.add 3) fun a5 bh a9 =>
 (CP N_ref01_Same #[(.slice a4 bg a8), (.slice a5 bh a9)] b fun cc y =>
 ∃ bt : Bool, cc = .returned (.bool bt) ∧
 (bsplit (!bt)
 (z true y)
 ((kLdS y (k.add 4) fun a6 bi ba =>
 (kLdS y (bk.add 4) fun a7 bj bb =>
 (CP N_ref18_SameRanges #[(.slice a6 bi ba), (.slice a7 bj bb)] y fun bs bw =>
 ∃ bu : Bool, bs = .returned (.bool bu) ∧
 z (!bu) bw)))))))))))))))))))))) ∧
 (kDrew al fun c =>
 (∃ aj : Nat → Prop,
 (aj aa ∧
 (kLdS c ⟨aa, 13, none⟩ fun a2 be _ =>
 (kIx a2 be ak fun bm =>
 (aj (bm.add (ak.toNat * 5)).block ∧
 (∃ r : Int, ∃ t : Bool, ∃ v : Int, ∃ l : OA, ∃ n m : Nat, ∃ o : OA, ∃ q p : Nat, cellsAt c (bm.add (ak.toNat * 5)) 0 [(Iv r), (.bool t), (Iv v), (.slice l n m), (.slice o q p)] ∧
 (aj d ∧
 (kLdS c ⟨d, 13, none⟩ fun a3 bf _ =>
 (kIx a3 bf ak fun bn =>
 (aj (bn.add (ak.toNat * 5)).block ∧
 (∃ s : Int, ∃ u : Bool, ∃ x : Int, ∃ e : OA, ∃ g f : Nat, ∃ h : OA, ∃ j i : Nat, cellsAt c (bn.add (ak.toNat * 5)) 0 [(Iv s), (.bool u), (Iv x), (.slice e g f), (.slice h j i)] ∧
 ((kAlloc c #[Iv (0 : Int), .bool false, Iv (0 : Int), .slice none 0 0, .slice none 0 0] Ty_api_Partial fun bq am =>
 (KeepsB aj c am ∧ (kAlloc am #[Iv (0 : Int), .bool false, Iv (0 : Int), .slice none 0 0, .slice none 0 0] Ty_api_Partial fun br an =>
 (KeepsB aj c an ∧ (sxStore an ⟨bq, 0, none⟩ 0 [(Iv r), (.bool t), (Iv v), (.slice l n m), (.slice o q p)] fun ao =>
 (KeepsB aj c ao ∧ (sxStore ao ⟨br, 0, none⟩ 0 [(Iv s), (.bool u), (Iv x), (.slice e g f), (.slice h j i)] fun bv =>
 a0 ⟨bq, 0, none⟩ ⟨br, 0, none⟩ bv))))))) ∧
 ((kAlloc c #[Iv (0 : Int), .bool false, Iv (0 : Int), .slice none 0 0, .slice none 0 0] Ty_api_Partial fun bo bx =>
 (KeepsB aj c bx ∧ (kAlloc bx #[Iv (0 : Int), .bool false, Iv (0 : Int), .slice none 0 0, .slice none 0 0] Ty_api_Partial fun bp bz =>
 (KeepsB aj c bz ∧ (sxStore bz ⟨bp, 0, none⟩ 0 [(Iv r), (.bool t), (Iv v), (.slice l n m), (.slice o q p)] fun b0 =>
 (KeepsB aj c b0 ∧ (sxStore b0 ⟨bo, 0, none⟩ 0 [(Iv s), (.bool u), (Iv x), (.slice e g f), (.slice h j i)] fun ce =>
 a0 ⟨bp, 0, none⟩ ⟨bo, 0, none⟩ ce))))))) ∧
 True))))))))))))))))
 (R (.bool true) al)))))))) ∧
 (∃ au av aw ax ay az : Int, cellsAt a ⟨aa, 0, none⟩ 0 [(Iv au), (Iv av), (Iv aw), (Iv ax), (Iv ay), (Iv az)] ∧
 (∃ ac ad ae af ag ah : Int, cellsAt a ⟨d, 0, none⟩ 0 [(Iv ac), (Iv ad), (Iv ae), (Iv af), (Iv ag), (Iv ah)] ∧
 (EqP Tryz.prog .neq Ty_api_Link (.tmp 9) (.tmp 11) (.agg #[Iv au, Iv av, Iv aw, Iv ax, Iv ay, Iv az]) (.agg #[Iv ac, Iv ad, Iv ae, Iv af, Iv ag, Iv ah]) fun co =>
 (bsplit co
 (ai true a)
 ((kLd a ⟨aa, 6, none⟩ .i64 fun cp =>
 (kLd a ⟨d, 6, none⟩ .i64 fun cf =>
 (bsplit (!decide (cp = cf))
 (ai true a)
 ((kLd a ⟨aa, 7, none⟩ .i64 fun cg =>
 (kLd a ⟨d, 7, none⟩ .i64 fun ch =>
 (bsplit (!decide (cg = ch))
 (ai true a)
 ((kLd a ⟨aa, 8, none⟩ .i64 fun ci =>
 (kLd a ⟨d, 8, none⟩ .i64 fun cj =>
 (bsplit (!decide (ci = cj))
 (ai true a)
 ((kLd a ⟨aa, 9, none⟩ .i64 fun ck =>
 (kLd a ⟨d, 9, none⟩ .i64 fun cl =>
 (bsplit (!decide (ck = cl))
 (ai true a)
 ((kLd a ⟨aa, 10, none⟩ .i64 fun cm =>
 (kLd a ⟨d, 10, none⟩ .i64 fun cn =>
 (bsplit (!decide (cm = cn))
 (ai true a)
 ((kLd a ⟨aa, 11, none⟩ .i64 fun b1 =>
 (kLd a ⟨d, 11, none⟩ .i64 fun b2 =>
 (bsplit (!decide (b1 = b2))
 (ai true a)
 ((kLdB a ⟨aa, 12, none⟩ fun b3 =>
 (kLdB a ⟨d, 12, none⟩ fun b4 =>
 (bsplit (!(b3 == b4))
 (ai true a)
 ((kLdS a ⟨aa, 13, none⟩ fun _ cb _ =>
 (kLdS a ⟨d, 13, none⟩ fun _ bc _ =>
 ai (!decide ((cb : Int) = (bc : Int))) a))))))))))))))))))))))))))))))))))))))
theorem F_ref21_Same_ok {R : EP} (a_0 a_1 a_2 a_3 a_4 a_5 a_6 a_7 a_8 a_9 a_10 a_11 : Int) (a_12 : Bool) (a_13_a : OA) (a_13_l a_13_c : Nat) (b_0 b_1 b_2 b_3 b_4 b_5 b_6 b_7 b_8 b_9 b_10 b_11 : Int) (b_12 : Bool) (b_13_a : OA) (b_13_l b_13_c : Nat) (w : World) (h : F_ref21_Same a_0 a_1 a_2 a_3 a_4 a_5 a_6 a_7 a_8 a_9 a_10 a_11 a_12 a_13_a a_13_l a_13_c b_0 b_1 b_2 b_3 b_4 b_5 b_6 b_7 b_8 b_9 b_10 b_11 b_12 b_13_a b_13_l b_13_c w fun v w' => R (.returned v) w') : CP N_ref21_Same #[(.agg #[Iv a_0, Iv a_1, Iv a_2, Iv a_3, Iv a_4, Iv a_5, Iv a_6, Iv a_7, Iv a_8, Iv a_9, Iv a_10, Iv a_11, .bool a_12, .slice a_13_a a_13_l a_13_c]), (.agg #[Iv b_0, Iv b_1, Iv b_2, Iv b_3, Iv b_4, Iv b_5, Iv b_6, Iv b_7, Iv b_8, Iv b_9, Iv b_10, Iv b_11, .bool b_12, .slice b_13_a b_13_l b_13_c])] w R :=
 calls_of (k := TTk) (h := h_ref21_Same) (f := 15) follows_ok Tryz.func15 (Eq.mpr (by kernel_rfl) h)

def h_ref23_Build : H := (.seq .reg (.seq (.block (.seq .reg (.cond (.seq .reg .leaf) (.cut [(18, .p .bool)] [18, 19, 20, 21, 22, 23, 24] .reg (.cond (.seq .reg .leaf) (.seq .reg (.cond (.seq .reg .leaf) .leaf))))))) (.cut [(7, .p .addr)] [7, 32, 33, 34, 35, 36, 37, 38, 39, 40, 41, 42, 43] (.draw .blk (.one 0 .stable (.one 1 .stable (.one 2 .stable (.one 3 .stable (.one 4 .stable (.one 5 .stable (.one 6 .stable (.one 7 .stable (.one 8 .stable (.one 9 .stable (.one 10 .stable (.alt 11 (.one 12 .keep (.one 13 .last .nil)) (.alt 12 (.one 11 .keep (.one 13 .last .nil)) .endAlt)))))))))))))) (.cut [] [44, 45, 46, 47] (.seq .reg (.cond .reg .leaf)) (.seq .reg (.seq (.seq .reg (.cond (.seq .reg .leaf) .leaf)) (.seq .reg (.seq .reg (.seq (.seq (.draw .no (.one 0 .stable (.one 1 .stable (.one 2 .stable (.one 3 .stable (.one 4 .stable (.one 5 .stable (.one 6 .stable (.one 7 .stable .nil))))))))) (.cond (.seq .reg (.seq .reg .reg)) .leaf)) (.seq .reg .leaf))))))))))
def F_ref23_Build (c_0 c_1 : Int) (c_2_a : OA) (c_2_l c_2_c : Nat) (c_3 size : Int) (w : World) (R : Value → WP) : Prop :=
 (kAlloc w #[(Iv c_0), (Iv c_1), (.slice c_2_a c_2_l c_2_c), (Iv c_3)] Ty_api_Cutter fun a ev =>
 (kAlloc ev #[Iv (0 : Int), Iv (0 : Int), .slice none 0 0, Iv (0 : Int)] Ty_api_Cutter fun b d7 =>
 (∃ db dc : Int, ∃ a7 : OA, ∃ a9 a8 : Nat, ∃ de : Int, cellsAt d7 ⟨a, 0, none⟩ 0 [(Iv db), (Iv dc), (.slice a7 a9 a8), (Iv de)] ∧
 (CP N_ref23_Valid #[(.agg #[Iv db, Iv dc, .slice a7 a9 a8, Iv de])] d7 fun es cy =>
 ∃ e1 : Bool, es = .returned (.bool e1) ∧
 (bsplit (!e1)
 ((∃ b5 cd : Int, ∃ aa : OA, ∃ am ag : Nat, ∃ cm : Int, cellsAt cy ⟨a, 0, none⟩ 0 [(Iv b5), (Iv cd), (.slice aa am ag), (Iv cm)] ∧
 (sxStore cy ⟨b, 0, none⟩ 0 [(Iv b5), (Iv cd), (.slice aa am ag), (Iv cm)] fun eb =>
 (∃ cz c0 : Int, ∃ az : OA, ∃ a1 a0 : Nat, ∃ c2 : Int, cellsAt eb ⟨b, 0, none⟩ 0 [(Iv cz), (Iv c0), (.slice az a1 a0), (Iv c2)] ∧
 R (.tuple #[(.agg #[Iv cz, Iv c0, .slice az a1 a0, Iv c2]), (.slice none 0 0), (Iv (1 : Int))]) eb))))
 ((∃ eo : Bool → WP,
 (∀ (_ : Env) (ee : Bool) (ax : World), eo ee ax →
 (bsplit ee
 ((∃ b6 ce : Int, ∃ ab : OA, ∃ an ah : Nat, ∃ cn : Int, cellsAt ax ⟨a, 0, none⟩ 0 [(Iv b6), (Iv ce), (.slice ab an ah), (Iv cn)] ∧
 (sxStore ax ⟨b, 0, none⟩ 0 [(Iv b6), (Iv ce), (.slice ab an ah), (Iv cn)] fun ec =>
 (∃ bd bk : Int, ∃ f : OA, ∃ p k : Nat, ∃ bs : Int, cellsAt ec ⟨b, 0, none⟩ 0 [(Iv bd), (Iv bk), (.slice f p k), (Iv bs)] ∧
 R (.tuple #[(.agg #[Iv bd, Iv bk, .slice f p k, Iv bs]), (.slice none 0 0), (Iv (3 : Int))]) ec))))
 ((kLdS ax ⟨a, 2, none⟩ fun _ en _ =>
 (kLet (decide ((en : Int) = (0 : Int))) fun ew =>
 (bsplit ew
 ((∃ b7 cf : Int, ∃ ac : OA, ∃ ao ai : Nat, ∃ co : Int, cellsAt ax ⟨a, 0, none⟩ 0 [(Iv b7), (Iv cf), (.slice ac ao ai), (Iv co)] ∧
 (sxStore ax ⟨b, 0, none⟩ 0 [(Iv b7), (Iv cf), (.slice ac ao ai), (Iv co)] fun ed =>
 (∃ be bl : Int, ∃ g : OA, ∃ q l : Nat, ∃ bt : Int, cellsAt ed ⟨b, 0, none⟩ 0 [(Iv be), (Iv bl), (.slice g q l), (Iv bt)] ∧
 R (.tuple #[(.agg #[Iv be, Iv bl, .slice g q l, Iv bt]), (.slice none 0 0), (Iv (14 : Int))]) ed))))
 ((∃ df : Addr → WP,
 (∀ (_ : Env) (et : Addr) (a5 : World), df et a5 →
 (∃ dg : WP,
 (∀ (_ : Env)  (a6 : World), dg a6 →
 (kLd a6 ⟨a, 0, none⟩ .i64 fun ey =>
 (∃ b8 cg dd cp : Int, ∃ ba : OA, ∃ bc bb : Nat, cellsAt a6 et 0 [(Iv b8), (Iv cg), (Iv dd), (Iv cp), (.slice ba bc bb)] ∧
 (CP N_ref18_Cut #[(Iv ey), (.agg #[Iv b8, Iv cg, Iv dd, Iv cp, .slice ba bc bb]), (Iv size)] a6 fun dy d3 =>
 ∃ bf bm c1 bu : Int, ∃ a2 : OA, ∃ a4 a3 : Nat, ∃ bg bn br bv : Int, ∃ u : OA, ∃ x v : Nat, ∃ di : Int, dy = .returned (.tuple #[(.agg #[Iv bf, Iv bm, Iv c1, Iv bu, .slice a2 a4 a3]), (.agg #[Iv bg, Iv bn, Iv br, Iv bv, .slice u x v]), (Iv di)]) ∧
 (kAlloc d3 #[Iv (0 : Int), Iv (0 : Int), Iv (0 : Int), Iv (0 : Int), .slice none 0 0] Ty_api_Piece fun dh d4 =>
 (kAlloc d4 #[Iv (0 : Int), Iv (0 : Int), Iv (0 : Int), Iv (0 : Int), .slice none 0 0] Ty_api_Piece fun ep d5 =>
 (sxStore d5 ⟨dh, 0, none⟩ 0 [(Iv bf), (Iv bm), (Iv c1), (Iv bu), (.slice a2 a4 a3)] fun d6 =>
 (sxStore d6 ⟨ep, 0, none⟩ 0 [(Iv bg), (Iv bn), (Iv br), (Iv bv), (.slice u x v)] fun y =>
 (bsplit (!decide (di = (0 : Int)))
 ((∃ b9 ch : Int, ∃ ad : OA, ∃ ap aj : Nat, ∃ cq : Int, cellsAt y ⟨a, 0, none⟩ 0 [(Iv b9), (Iv ch), (.slice ad ap aj), (Iv cq)] ∧
 (sxStore y ⟨b, 0, none⟩ 0 [(Iv b9), (Iv ch), (.slice ad ap aj), (Iv cq)] fun c4 =>
 (∃ bh bo : Int, ∃ h : OA, ∃ r m : Nat, ∃ bw : Int, cellsAt c4 ⟨b, 0, none⟩ 0 [(Iv bh), (Iv bo), (.slice h r m), (Iv bw)] ∧
 R (.tuple #[(.agg #[Iv bh, Iv bo, .slice h r m, Iv bw]), (.slice none 0 0), (Iv di)]) c4))))
 ((kLd y ⟨a, 0, none⟩ .i64 fun ez =>
 (∃ ca ci cl cr : Int, ∃ au : OA, ∃ aw av : Nat, cellsAt y ⟨dh, 0, none⟩ 0 [(Iv ca), (Iv ci), (Iv cl), (Iv cr), (.slice au aw av)] ∧
 (CP N_ref18_Encode #[(Iv ez), (.agg #[Iv ca, Iv ci, Iv cl, Iv cr, .slice au aw av])] y fun dz b3 =>
 ∃ b0 : OA, ∃ b2 b1 : Nat, ∃ eu : Int, dz = .returned (.tuple #[(.slice b0 b2 b1), (Iv eu)]) ∧
 (kLd b3 ⟨a, 3, none⟩ .i64 fun e0 =>
 (kLdS b3 ⟨dh, 4, none⟩ fun _ dr _ =>
 (kW .i64 (e0 + (dr : Int)) fun ef =>
 (kSet b3 ⟨a, 3, none⟩ (Iv ef) fun d8 =>
 (kDrew d8 fun d =>
 (kLd d ⟨a, 3, none⟩ .i64 fun eg =>
 (kLdS d ⟨a, 2, none⟩ fun dl ds _ =>
 (kIx dl ds (0 : Int) fun eq =>
 (kLdS d (eq.add ((0 : Int).toNat * 1)) fun _ dt _ =>
 (bsplit (decide (eg = (dt : Int)))
 ((kSet d ⟨a, 3, none⟩ (Iv (0 : Int)) fun b4 =>
 (kLd b4 ⟨a, 1, none⟩ .i64 fun eh =>
 (kW .i64 (eh + (1 : Int)) fun ei =>
 (kLd b4 ⟨a, 0, none⟩ .i64 fun ej =>
 (kW .u64 (ej) fun c9 =>
 (0 ≤ c9 ∧ (kW .i64 ((1 : Int) * 2 ^ (min c9.toNat (IntKind.bits .i64))) fun da =>
 (da ≠ 0 ∧ (kLet (Int.tmod ei da) fun ek =>
 (kSet b4 ⟨a, 1, none⟩ (Iv ek) fun d9 =>
 (kAlloc d9 #[] Ty_S_uint8 fun er c5 =>
 (kLdS c5 ⟨a, 2, none⟩ fun dm cw cv =>
 ((0 ≤ (1 : Int) ∧ (1 : Int) ≤ ((cw : Nat) : Int)) ∧ (AppP Tryz.prog #[Ty_S_S_uint8, Ty_S_S_uint8] Ty_S_S_uint8 #[(.slice (some ⟨er, 0, none⟩) 0 0), (.slice (slAddr cv ((1 : Int).toNat) 1 dm) (cw - (1 : Int).toNat) (cv - (1 : Int).toNat))] c5 fun dn du dp ea =>
 (kSet ea ⟨a, 2, none⟩ (.slice dn du dp) fun c6 =>
 (∃ cb cj : Int, ∃ ae : OA, ∃ aq ak : Nat, ∃ cs : Int, cellsAt c6 ⟨a, 0, none⟩ 0 [(Iv cb), (Iv cj), (.slice ae aq ak), (Iv cs)] ∧
 (sxStore c6 ⟨b, 0, none⟩ 0 [(Iv cb), (Iv cj), (.slice ae aq ak), (Iv cs)] fun c7 =>
 (∃ bi bp : Int, ∃ i : OA, ∃ s n : Nat, ∃ bx : Int, cellsAt c7 ⟨b, 0, none⟩ 0 [(Iv bi), (Iv bp), (.slice i s n), (Iv bx)] ∧
 R (.tuple #[(.agg #[Iv bi, Iv bp, .slice i s n, Iv bx]), (.slice b0 b2 b1), (Iv (0 : Int))]) c7)))))))))))))))))))
 ((∃ cc ck : Int, ∃ af : OA, ∃ ar al : Nat, ∃ ct : Int, cellsAt d ⟨a, 0, none⟩ 0 [(Iv cc), (Iv ck), (.slice af ar al), (Iv ct)] ∧
 (sxStore d ⟨b, 0, none⟩ 0 [(Iv cc), (Iv ck), (.slice af ar al), (Iv ct)] fun c8 =>
 (∃ bj bq : Int, ∃ j : OA, ∃ t o : Nat, ∃ bz : Int, cellsAt c8 ⟨b, 0, none⟩ 0 [(Iv bj), (Iv bq), (.slice j t o), (Iv bz)] ∧
 R (.tuple #[(.agg #[Iv bj, Iv bq, .slice j t o, Iv bz]), (.slice b0 b2 b1), (Iv (0 : Int))]) c8))))))))))))))))))))))))))) ∧
 (kLd a5 ⟨a, 3, none⟩ .i64 fun ex =>
 (bsplit (decide (ex > (0 : Int)))
 ((kSet a5 (et.add 1) (Iv (2 : Int)) fun d2 =>
 dg d2))
 (dg a5))))) ∧
 (kDrew ax fun c =>
 (∃ cx : Nat → Prop,
 (cx a ∧
 (kLd c ⟨a, 1, none⟩ .i64 fun el =>
 (cx a ∧
 (kLd c ⟨a, 3, none⟩ .i64 fun em =>
 (cx a ∧
 (kLdS c ⟨a, 2, none⟩ fun dk dq _ =>
 (kIx dk dq (0 : Int) fun dv =>
 (cx (dv.add ((0 : Int).toNat * 1)).block ∧
 (kLdS c (dv.add ((0 : Int).toNat * 1)) fun cu ay e =>
 (cx a ∧
 (kLd c ⟨a, 3, none⟩ .i64 fun z =>
 ((0 ≤ z ∧ z ≤ ((ay : Nat) : Int)) ∧ ((KeepsB cx c c ∧ (kAlloc c #[Iv (0 : Int), Iv (0 : Int), Iv (0 : Int), Iv (0 : Int), .slice none 0 0] Ty_api_Piece fun dx c3 =>
 (KeepsB cx c c3 ∧ (sxStore c3 ⟨dx, 0, none⟩ 0 [(Iv el), (Iv (0 : Int)), (Iv (0 : Int)), (Iv em), (.slice (slAddr e (z.toNat) 1 cu) (ay - z.toNat) (e - z.toNat))] fun d1 =>
 df ⟨dx, 0, none⟩ d1)))) ∧
 ((kAlloc c #[Iv (0 : Int), Iv (0 : Int), Iv (0 : Int), Iv (0 : Int), .slice none 0 0] Ty_api_Piece fun dw dj =>
 (KeepsB cx c dj ∧ (KeepsB cx c dj ∧ (sxStore dj ⟨dw, 0, none⟩ 0 [(Iv el), (Iv (0 : Int)), (Iv (0 : Int)), (Iv em), (.slice (slAddr e (z.toNat) 1 cu) (ay - z.toNat) (e - z.toNat))] fun d0 =>
 df ⟨dw, 0, none⟩ d0)))) ∧
 True)))))))))))))))))))))))) ∧
 (bsplit (decide (size < (0 : Int)))
 (eo true cy)
 ((kLet (decide (size > (4096 : Int))) fun e2 =>
 eo e2 cy))))))))))
theorem F_ref23_Build_ok {R : EP} (c_0 c_1 : Int) (c_2_a : OA) (c_2_l c_2_c : Nat) (c_3 size : Int) (w : World) (h : F_ref23_Build c_0 c_1 c_2_a c_2_l c_2_c c_3 size w fun v w' => R (.returned v) w') : CP N_ref23_Build #[(.agg #[Iv c_0, Iv c_1, .slice c_2_a c_2_l c_2_c, Iv c_3]), (Iv size)] w R :=
 calls_of (k := TTk) (h := h_ref23_Build) (f := 16) follows_ok Tryz.func16 (Eq.mpr (by kernel_rfl) h)

def h_unack_Receive : H := (.seq .reg (.seq .reg (.seq .reg .leaf)))
def F_unack_Receive (r_0 r_1 r_2 r_3 r_4 r_5 r_6 r_7 r_8 r_9 r_10 r_11 : Int) (r_12 : Bool) (r_13_a : OA) (r_13_l r_13_c : Nat) (b_a : OA) (b_l b_c : Nat) (w : World) (R : Value → WP) : Prop :=
 (kAlloc w #[(Iv r_0), (Iv r_1), (Iv r_2), (Iv r_3), (Iv r_4), (Iv r_5), (Iv r_6), (Iv r_7), (Iv r_8), (Iv r_9), (Iv r_10), (Iv r_11), (.bool r_12), (.slice r_13_a r_13_l r_13_c)] Ty_api_Receiver fun cb b6 =>
 (kAlloc b6 #[Iv (0 : Int), Iv (0 : Int), Iv (0 : Int), Iv (0 : Int), Iv (0 : Int), Iv (0 : Int), Iv (0 : Int), Iv (0 : Int), Iv (0 : Int), Iv (0 : Int), Iv (0 : Int), Iv (0 : Int), .bool false, .slice none 0 0] Ty_api_Receiver fun bz b2 =>
 (∃ bo bp bq br bs bt bu bv bw bx a9 ba : Int, ∃ bb : Bool, ∃ m : OA, ∃ o n : Nat, cellsAt b2 ⟨cb, 0, none⟩ 0 [(Iv bo), (Iv bp), (Iv bq), (Iv br), (Iv bs), (Iv bt), (Iv bu), (Iv bv), (Iv bw), (Iv bx), (Iv a9), (Iv ba), (.bool bb), (.slice m o n)] ∧
 (CP N_receiver_Receive #[(.agg #[Iv bo, Iv bp, Iv bq, Iv br, Iv bs, Iv bt, Iv bu, Iv bv, Iv bw, Iv bx, Iv a9, Iv ba, .bool bb, .slice m o n]), (.slice b_a b_l b_c)] b2 fun b5 b7 =>
 ∃ ac af ai al ao ar aw az a2 a5 p s : Int, ∃ v : Bool, ∃ a : OA, ∃ g d : Nat, ∃ bl : OA, ∃ bn bm : Nat, ∃ ca : Int, b5 = .returned (.tuple #[(.agg #[Iv ac, Iv af, Iv ai, Iv al, Iv ao, Iv ar, Iv aw, Iv az, Iv a2, Iv a5, Iv p, Iv s, .bool v, .slice a g d]), (.slice bl bn bm), (Iv ca)]) ∧
 (kAlloc b7 #[Iv (0 : Int), Iv (0 : Int), Iv (0 : Int), Iv (0 : Int), Iv (0 : Int), Iv (0 : Int), Iv (0 : Int), Iv (0 : Int), Iv (0 : Int), Iv (0 : Int), Iv (0 : Int), Iv (0 : Int), .bool false, .slice none 0 0] Ty_api_Receiver fun b0 b8 =>
 (sxStore b8 ⟨b0, 0, none⟩ 0 [(Iv ac), (Iv af), (Iv ai), (Iv al), (Iv ao), (Iv ar), (Iv aw), (Iv az), (Iv a2), (Iv a5), (Iv p), (Iv s), (.bool v), (.slice a g d)] fun b3 =>
 (∃ a8 bc bd be bf bg bh bi bj bk z aa : Int, ∃ ab : Bool, ∃ j : OA, ∃ l k : Nat, cellsAt b3 ⟨b0, 0, none⟩ 0 [(Iv a8), (Iv bc), (Iv bd), (Iv be), (Iv bf), (Iv bg), (Iv bh), (Iv bi), (Iv bj), (Iv bk), (Iv z), (Iv aa), (.bool ab), (.slice j l k)] ∧
 (CP N_unack_plain #[(.agg #[Iv a8, Iv bc, Iv bd, Iv be, Iv bf, Iv bg, Iv bh, Iv bi, Iv bj, Iv bk, Iv z, Iv aa, .bool ab, .slice j l k])] b3 fun b1 b9 =>
 ∃ ad ag aj am ap au ax a0 a3 a6 q t : Int, ∃ x : Bool, ∃ b : OA, ∃ h e : Nat, b1 = .returned (.agg #[Iv ad, Iv ag, Iv aj, Iv am, Iv ap, Iv au, Iv ax, Iv a0, Iv a3, Iv a6, Iv q, Iv t, .bool x, .slice b h e]) ∧
 (sxStore b9 ⟨bz, 0, none⟩ 0 [(Iv ad), (Iv ag), (Iv aj), (Iv am), (Iv ap), (Iv au), (Iv ax), (Iv a0), (Iv a3), (Iv a6), (Iv q), (Iv t), (.bool x), (.slice b h e)] fun b4 =>
 (∃ ae ah ak an aq av ay a1 a4 a7 r u : Int, ∃ y : Bool, ∃ c : OA, ∃ i f : Nat, cellsAt b4 ⟨bz, 0, none⟩ 0 [(Iv ae), (Iv ah), (Iv ak), (Iv an), (Iv aq), (Iv av), (Iv ay), (Iv a1), (Iv a4), (Iv a7), (Iv r), (Iv u), (.bool y), (.slice c i f)] ∧
 R (.tuple #[(.agg #[Iv ae, Iv ah, Iv ak, Iv an, Iv aq, Iv av, Iv ay, Iv a1, Iv a4, Iv a7, Iv r, Iv u, .bool y, .slice c i f]), (.slice bl bn bm), (Iv ca)]) b4))))))))))
theorem F_unack_Receive_ok {R : EP} (r_0 r_1 r_2 r_3 r_4 r_5 r_6 r_7 r_8 r_9 r_10 r_11 : Int) (r_12 : Bool) (r_13_a : OA) (r_13_l r_13_c : Nat) (b_a : OA) (b_l b_c : Nat) (w : World) (h : F_unack_Receive r_0 r_1 r_2 r_3 r_4 r_5 r_6 r_7 r_8 r_9 r_10 r_11 r_12 r_13_a r_13_l r_13_c b_a b_l b_c w fun v w' => R (.returned v) w') : CP N_unack_Receive #[(.agg #[Iv r_0, Iv r_1, Iv r_2, Iv r_3, Iv r_4, Iv r_5, Iv r_6, Iv r_7, Iv r_8, Iv r_9, Iv r_10, Iv r_11, .bool r_12, .slice r_13_a r_13_l r_13_c]), (.slice b_a b_l b_c)] w R :=
 calls_of (k := TTk) (h := h_unack_Receive) (f := 17) follows_ok Tryz.func17 (Eq.mpr (by kernel_rfl) h)

def h_ref23_Receive : H := (.seq .reg (.seq .reg (.seq (.seq .reg (.cond (.seq .reg .leaf) .leaf)) (.seq .reg .leaf))))
def F_ref23_Receive (r_0 r_1 r_2 r_3 r_4 r_5 r_6 r_7 r_8 r_9 r_10 r_11 : Int) (r_12 : Bool) (r_13_a : OA) (r_13_l r_13_c : Nat) (b_a : OA) (b_l b_c : Nat) (w : World) (R : Value → WP) : Prop :=
 (kAlloc w #[(Iv r_0), (Iv r_1), (Iv r_2), (Iv r_3), (Iv r_4), (Iv r_5), (Iv r_6), (Iv r_7), (Iv r_8), (Iv r_9), (Iv r_10), (Iv r_11), (.bool r_12), (.slice r_13_a r_13_l r_13_c)] Ty_api_Receiver fun c8 c4 =>
 (kAlloc c4 #[Iv (0 : Int), Iv (0 : Int), Iv (0 : Int), Iv (0 : Int), Iv (0 : Int), Iv (0 : Int), Iv (0 : Int), Iv (0 : Int), Iv (0 : Int), Iv (0 : Int), Iv (0 : Int), Iv (0 : Int), .bool false, .slice none 0 0] Ty_api_Receiver fun cl cz =>
 (∃ cn co cp cq cr cs ct cu cv cw b0 b1 : Int, ∃ b2 : Bool, ∃ s : OA, ∃ u t : Nat, cellsAt cz ⟨c8, 0, none⟩ 0 [(Iv cn), (Iv co), (Iv cp), (Iv cq), (Iv cr), (Iv cs), (Iv ct), (Iv cu), (Iv cv), (Iv cw), (Iv b0), (Iv b1), (.bool b2), (.slice s u t)] ∧
 (CP N_ref21_Receive #[(.agg #[Iv cn, Iv co, Iv cp, Iv cq, Iv cr, Iv cs, Iv ct, Iv cu, Iv cv, Iv cw, Iv b0, Iv b1, .bool b2, .slice s u t]), (.slice b_a b_l b_c)] cz fun c3 c5 =>
 ∃ ao au ay a2 a6 ba be bi bm bq v aa : Int, ∃ ae : Bool, ∃ a : OA, ∃ i e : Nat, ∃ bu : OA, ∃ bw bv : Nat, ∃ c2 : Int, c3 = .returned (.tuple #[(.agg #[Iv ao, Iv au, Iv ay, Iv a2, Iv a6, Iv ba, Iv be, Iv bi, Iv bm, Iv bq, Iv v, Iv aa, .bool ae, .slice a i e]), (.slice bu bw bv), (Iv c2)]) ∧
 (kAlloc c5 #[Iv (0 : Int), Iv (0 : Int), Iv (0 : Int), Iv (0 : Int), Iv (0 : Int), Iv (0 : Int), Iv (0 : Int), Iv (0 : Int), Iv (0 : Int), Iv (0 : Int), Iv (0 : Int), Iv (0 : Int), .bool false, .slice none 0 0] Ty_api_Receiver fun cx c6 =>
 (sxStore c6 ⟨cx, 0, none⟩ 0 [(Iv ao), (Iv au), (Iv ay), (Iv a2), (Iv a6), (Iv ba), (Iv be), (Iv bi), (Iv bm), (Iv bq), (Iv v), (Iv aa), (.bool ae), (.slice a i e)] fun cm =>
 (bsplit (decide (c2 = (1 : Int)))
 ((∃ bx b3 b5 b7 b9 cb cd cf ch cj ai ak : Int, ∃ am : Bool, ∃ m : OA, ∃ q o : Nat, cellsAt cm ⟨cx, 0, none⟩ 0 [(Iv bx), (Iv b3), (Iv b5), (Iv b7), (Iv b9), (Iv cb), (Iv cd), (Iv cf), (Iv ch), (Iv cj), (Iv ai), (Iv ak), (.bool am), (.slice m q o)] ∧
 (sxStore cm ⟨cl, 0, none⟩ 0 [(Iv bx), (Iv b3), (Iv b5), (Iv b7), (Iv b9), (Iv cb), (Iv cd), (Iv cf), (Iv ch), (Iv cj), (Iv ai), (Iv ak), (.bool am), (.slice m q o)] fun c0 =>
 (∃ ap av az a3 a7 bb bf bj bn br x ab : Int, ∃ af : Bool, ∃ b : OA, ∃ j f : Nat, cellsAt c0 ⟨cl, 0, none⟩ 0 [(Iv ap), (Iv av), (Iv az), (Iv a3), (Iv a7), (Iv bb), (Iv bf), (Iv bj), (Iv bn), (Iv br), (Iv x), (Iv ab), (.bool af), (.slice b j f)] ∧
 R (.tuple #[(.agg #[Iv ap, Iv av, Iv az, Iv a3, Iv a7, Iv bb, Iv bf, Iv bj, Iv bn, Iv br, Iv x, Iv ab, .bool af, .slice b j f]), (.slice bu bw bv), (Iv c2)]) c0))))
 ((∃ bz b4 b6 b8 ca cc ce cg ci ck aj al : Int, ∃ an : Bool, ∃ n : OA, ∃ r p : Nat, cellsAt cm ⟨cx, 0, none⟩ 0 [(Iv bz), (Iv b4), (Iv b6), (Iv b8), (Iv ca), (Iv cc), (Iv ce), (Iv cg), (Iv ci), (Iv ck), (Iv aj), (Iv al), (.bool an), (.slice n r p)] ∧
 (CP N_ref23_quiet #[(.agg #[Iv bz, Iv b4, Iv b6, Iv b8, Iv ca, Iv cc, Iv ce, Iv cg, Iv ci, Iv ck, Iv aj, Iv al, .bool an, .slice n r p])] cm fun cy c7 =>
 ∃ aq aw a0 a4 a8 bc bg bk bo bs y ac : Int, ∃ ag : Bool, ∃ c : OA, ∃ k g : Nat, cy = .returned (.agg #[Iv aq, Iv aw, Iv a0, Iv a4, Iv a8, Iv bc, Iv bg, Iv bk, Iv bo, Iv bs, Iv y, Iv ac, .bool ag, .slice c k g]) ∧
 (sxStore c7 ⟨cl, 0, none⟩ 0 [(Iv aq), (Iv aw), (Iv a0), (Iv a4), (Iv a8), (Iv bc), (Iv bg), (Iv bk), (Iv bo), (Iv bs), (Iv y), (Iv ac), (.bool ag), (.slice c k g)] fun c1 =>
 (∃ ar ax a1 a5 a9 bd bh bl bp bt z ad : Int, ∃ ah : Bool, ∃ d : OA, ∃ l h : Nat, cellsAt c1 ⟨cl, 0, none⟩ 0 [(Iv ar), (Iv ax), (Iv a1), (Iv a5), (Iv a9), (Iv bd), (Iv bh), (Iv bl), (Iv bp), (Iv bt), (Iv z), (Iv ad), (.bool ah), (.slice d l h)] ∧
 R (.tuple #[(.agg #[Iv ar, Iv ax, Iv a1, Iv a5, Iv a9, Iv bd, Iv bh, Iv bl, Iv bp, Iv bt, Iv z, Iv ad, .bool ah, .slice d l h]), (.slice bu bw bv), (Iv c2)]) c1))))))))))))
theorem F_ref23_Receive_ok {R : EP} (r_0 r_1 r_2 r_3 r_4 r_5 r_6 r_7 r_8 r_9 r_10 r_11 : Int) (r_12 : Bool) (r_13_a : OA) (r_13_l r_13_c : Nat) (b_a : OA) (b_l b_c : Nat) (w : World) (h : F_ref23_Receive r_0 r_1 r_2 r_3 r_4 r_5 r_6 r_7 r_8 r_9 r_10 r_11 r_12 r_13_a r_13_l r_13_c b_a b_l b_c w fun v w' => R (.returned v) w') : CP N_ref23_Receive #[(.agg #[Iv r_0, Iv r_1, Iv r_2, Iv r_3, Iv r_4, Iv r_5, Iv r_6, Iv r_7, Iv r_8, Iv r_9, Iv r_10, Iv r_11, .bool r_12, .slice r_13_a r_13_l r_13_c]), (.slice b_a b_l b_c)] w R :=
 calls_of (k := TTk) (h := h_ref23_Receive) (f := 18) follows_ok Tryz.func18 (Eq.mpr (by kernel_rfl) h)

def h_roll_Same : H := (.seq .reg (.seq .reg .leaf))
def F_roll_Same (a_a : OA) (a_l a_c : Nat) (b_a : OA) (b_l b_c : Nat) (w : World) (R : Value → WP) : Prop :=
 (ConvS Tryz.prog Ty_S_uint8 Ty_string (.slice a_a a_l a_c) w fun b =>
 (ConvS Tryz.prog Ty_S_uint8 Ty_string (.slice b_a b_l b_c) w fun a =>
 R (.bool (b == a)) w))
theorem F_roll_Same_ok {R : EP} (a_a : OA) (a_l a_c : Nat) (b_a : OA) (b_l b_c : Nat) (w : World) (h : F_roll_Same a_a a_l a_c b_a b_l b_c w fun v w' => R (.returned v) w') : CP N_roll_Same #[(.slice a_a a_l a_c), (.slice b_a b_l b_c)] w R :=
 calls_of (k := TTk) (h := h_roll_Same) (f := 19) follows_ok Tryz.func19 (Eq.mpr (by kernel_rfl) h)

def h_unack_New : H := (.seq .reg (.seq (.cut [(19, .p .bool)] [9, 10, 11, 12, 13, 14, 15, 16, 17, 18, 19] .reg (.cond (.seq .reg .leaf) .leaf)) (.seq .reg (.seq (.seq .reg (.cond (.seq .reg .leaf) .leaf)) (.seq (.draw .blk (.one 0 .pur (.one 2 .stable (.one 1 .keep (.one 3 .keep (.one 4 .last (.one 5 .pur .nil))))))) .leaf)))))
def F_unack_New (bits wait : Int) (w : World) (R : Value → WP) : Prop :=
 (kAlloc w #[Iv (0 : Int), Iv (0 : Int), .slice none 0 0, Iv (0 : Int)] Ty_api_Cutter fun co cv =>
 (kAlloc cv #[Iv (0 : Int), Iv (0 : Int), Iv (0 : Int), Iv (0 : Int), Iv (0 : Int), Iv (0 : Int), Iv (0 : Int), Iv (0 : Int), Iv (0 : Int), Iv (0 : Int), Iv (0 : Int), Iv (0 : Int), .bool false, .slice none 0 0] Ty_api_Receiver fun ak cw =>
 (∃ cs : Bool → WP,
 (∀ (_ : Env) (c1 : Bool) (cm : World), cs c1 cm →
 (bsplit c1
 ((sxStore cm ⟨co, 0, none⟩ 0 [(Iv (0 : Int)), (Iv (0 : Int)), (.slice none 0 0), (Iv (0 : Int))] fun cx =>
 (sxStore cx ⟨ak, 0, none⟩ 0 [(Iv (0 : Int)), (Iv (0 : Int)), (Iv (0 : Int)), (Iv (0 : Int)), (Iv (0 : Int)), (Iv (0 : Int)), (Iv (0 : Int)), (Iv (0 : Int)), (Iv (0 : Int)), (Iv (0 : Int)), (Iv (0 : Int)), (Iv (0 : Int)), (.bool false), (.slice none 0 0)] fun cn =>
 (∃ bx bz : Int, ∃ ah : OA, ∃ aj ai : Nat, ∃ b1 : Int, cellsAt cn ⟨co, 0, none⟩ 0 [(Iv bx), (Iv bz), (.slice ah aj ai), (Iv b1)] ∧
 (∃ al au b0 a4 b2 b3 b4 b5 b6 b7 ar aa : Int, ∃ av : Bool, ∃ j : OA, ∃ l k : Nat, cellsAt cn ⟨ak, 0, none⟩ 0 [(Iv al), (Iv au), (Iv b0), (Iv a4), (Iv b2), (Iv b3), (Iv b4), (Iv b5), (Iv b6), (Iv b7), (Iv ar), (Iv aa), (.bool av), (.slice j l k)] ∧
 R (.tuple #[(.agg #[Iv bx, Iv bz, .slice ah aj ai, Iv b1]), (.agg #[Iv al, Iv au, Iv b0, Iv a4, Iv b2, Iv b3, Iv b4, Iv b5, Iv b6, Iv b7, Iv ar, Iv aa, .bool av, .slice j l k]), (Iv (3 : Int))]) cn)))))
 ((CP N_receiver_New #[(.agg #[Iv bits, Iv (1 : Int), Iv (1 : Int), Iv wait, Iv (0 : Int), Iv (1 : Int)])] cm fun cp cy =>
 ∃ am aw a1 a5 ba bd bg bj bm bp x ab : Int, ∃ ae : Bool, ∃ a : OA, ∃ g d : Nat, ∃ ck : Int, cp = .returned (.tuple #[(.agg #[Iv am, Iv aw, Iv a1, Iv a5, Iv ba, Iv bd, Iv bg, Iv bj, Iv bm, Iv bp, Iv x, Iv ab, .bool ae, .slice a g d]), (Iv ck)]) ∧
 (kAlloc cy #[Iv (0 : Int), Iv (0 : Int), Iv (0 : Int), Iv (0 : Int), Iv (0 : Int), Iv (0 : Int), Iv (0 : Int), Iv (0 : Int), Iv (0 : Int), Iv (0 : Int), Iv (0 : Int), Iv (0 : Int), .bool false, .slice none 0 0] Ty_api_Receiver fun cj cz =>
 (sxStore cz ⟨cj, 0, none⟩ 0 [(Iv am), (Iv aw), (Iv a1), (Iv a5), (Iv ba), (Iv bd), (Iv bg), (Iv bj), (Iv bm), (Iv bp), (Iv x), (Iv ab), (.bool ae), (.slice a g d)] fun cr =>
 (bsplit (!decide (ck = (0 : Int)))
 ((sxStore cr ⟨co, 0, none⟩ 0 [(Iv (0 : Int)), (Iv (0 : Int)), (.slice none 0 0), (Iv (0 : Int))] fun cq =>
 (sxStore cq ⟨ak, 0, none⟩ 0 [(Iv (0 : Int)), (Iv (0 : Int)), (Iv (0 : Int)), (Iv (0 : Int)), (Iv (0 : Int)), (Iv (0 : Int)), (Iv (0 : Int)), (Iv (0 : Int)), (Iv (0 : Int)), (Iv (0 : Int)), (Iv (0 : Int)), (Iv (0 : Int)), (.bool false), (.slice none 0 0)] fun bs =>
 (∃ an ax : Int, ∃ m : OA, ∃ q o : Nat, ∃ a6 : Int, cellsAt bs ⟨co, 0, none⟩ 0 [(Iv an), (Iv ax), (.slice m q o), (Iv a6)] ∧
 (∃ ao ay a2 a7 bb be bh bk bn bq y ac : Int, ∃ af : Bool, ∃ b : OA, ∃ h e : Nat, cellsAt bs ⟨ak, 0, none⟩ 0 [(Iv ao), (Iv ay), (Iv a2), (Iv a7), (Iv bb), (Iv be), (Iv bh), (Iv bk), (Iv bn), (Iv bq), (Iv y), (Iv ac), (.bool af), (.slice b h e)] ∧
 R (.tuple #[(.agg #[Iv an, Iv ax, .slice m q o, Iv a6]), (.agg #[Iv ao, Iv ay, Iv a2, Iv a7, Iv bb, Iv be, Iv bh, Iv bk, Iv bn, Iv bq, Iv y, Iv ac, .bool af, .slice b h e]), (Iv ck)]) bs)))))
 ((kDrew cr fun s =>
 (∃ ct : Nat → Prop,
 (ct cj ∧
 (∃ b9 ca cb cc cd ce cf cg ch ci bu bv : Int, ∃ bw : Bool, ∃ t : OA, ∃ v u : Nat, cellsAt s ⟨cj, 0, none⟩ 0 [(Iv b9), (Iv ca), (Iv cb), (Iv cc), (Iv cd), (Iv ce), (Iv cf), (Iv cg), (Iv ch), (Iv ci), (Iv bu), (Iv bv), (.bool bw), (.slice t v u)] ∧
 (KeepsB ct s s ∧ (sxStore s ⟨co, 0, none⟩ 0 [(Iv bits), (Iv (0 : Int)), (.slice none 0 0), (Iv (0 : Int))] fun b8 =>
 (KeepsB ct s b8 ∧ (sxStore b8 ⟨ak, 0, none⟩ 0 [(Iv b9), (Iv ca), (Iv cb), (Iv cc), (Iv cd), (Iv ce), (Iv cf), (Iv cg), (Iv ch), (Iv ci), (Iv bu), (Iv bv), (.bool bw), (.slice t v u)] fun bt =>
 (∃ ap az : Int, ∃ n : OA, ∃ r p : Nat, ∃ a8 : Int, cellsAt bt ⟨co, 0, none⟩ 0 [(Iv ap), (Iv az), (.slice n r p), (Iv a8)] ∧
 (∃ aq a0 a3 a9 bc bf bi bl bo br z ad : Int, ∃ ag : Bool, ∃ c : OA, ∃ i f : Nat, cellsAt bt ⟨ak, 0, none⟩ 0 [(Iv aq), (Iv a0), (Iv a3), (Iv a9), (Iv bc), (Iv bf), (Iv bi), (Iv bl), (Iv bo), (Iv br), (Iv z), (Iv ad), (.bool ag), (.slice c i f)] ∧
 R (.tuple #[(.agg #[Iv ap, Iv az, .slice n r p, Iv a8]), (.agg #[Iv aq, Iv a0, Iv a3, Iv a9, Iv bc, Iv bf, Iv bi, Iv bl, Iv bo, Iv br, Iv z, Iv ad, .bool ag, .slice c i f]), (Iv (0 : Int))]) bt)))))))))))))))))) ∧
 (CP N_unack_bitsValid #[(Iv bits)] cw fun cu cl =>
 ∃ c0 : Bool, cu = .returned (.bool c0) ∧
 (bsplit (!c0)
 (cs true cl)
 ((bsplit (decide (wait < (1 : Int)))
 (cs true cl)
 (cs (decide (wait > (1000 : Int))) cl))))))))
theorem F_unack_New_ok {R : EP} (bits wait : Int) (w : World) (h : F_unack_New bits wait w fun v w' => R (.returned v) w') : CP N_unack_New #[(Iv bits), (Iv wait)] w R :=
 calls_of (k := TTk) (h := h_unack_New) (f := 20) follows_ok Tryz.func20 (Eq.mpr (by kernel_rfl) h)

def h_unack_Submit : H := (.seq .reg (.seq .reg (.seq (.block (.seq .reg (.cond (.seq .reg .leaf) (.seq .reg (.cond (.seq .reg .leaf) (.seq .reg (.cond (.seq .reg .leaf) .leaf))))))) (.seq (.draw .blk (.one 0 .pur (.one 1 .stable (.one 2 .pur (.one 3 .keep (.one 4 .keep (.one 5 .last (.one 6 .pur (.one 7 .last .nil))))))))) (.seq .reg .leaf)))))
def F_unack_Submit (c_0 c_1 : Int) (c_2_a : OA) (c_2_l c_2_c : Nat) (c_3 : Int) (data_a : OA) (data_l data_c : Nat) (w : World) (R : Value → WP) : Prop :=
 (kAlloc w #[(Iv c_0), (Iv c_1), (.slice c_2_a c_2_l c_2_c), (Iv c_3)] Ty_api_Cutter fun cc cf =>
 (kAlloc cf #[Iv (0 : Int), Iv (0 : Int), .slice none 0 0, Iv (0 : Int)] Ty_api_Cutter fun a b6 =>
 (∃ bq br : Int, ∃ ai : OA, ∃ ak aj : Nat, ∃ bs : Int, cellsAt b6 ⟨cc, 0, none⟩ 0 [(Iv bq), (Iv br), (.slice ai ak aj), (Iv bs)] ∧
 (CP N_own_Cutter #[(.agg #[Iv bq, Iv br, .slice ai ak aj, Iv bs])] b6 fun ce cg =>
 ∃ bf bg : Int, ∃ ae : OA, ∃ ag af : Nat, ∃ bh : Int, ce = .returned (.agg #[Iv bf, Iv bg, .slice ae ag af, Iv bh]) ∧
 (kAlloc cg #[Iv (0 : Int), Iv (0 : Int), .slice none 0 0, Iv (0 : Int)] Ty_api_Cutter fun b ch =>
 (sxStore ch ⟨b, 0, none⟩ 0 [(Iv bf), (Iv bg), (.slice ae ag af), (Iv bh)] fun b7 =>
 (∃ a0 a5 : Int, ∃ o : OA, ∃ z t : Nat, ∃ ba : Int, cellsAt b7 ⟨cc, 0, none⟩ 0 [(Iv a0), (Iv a5), (.slice o z t), (Iv ba)] ∧
 (CP N_unack_Valid #[(.agg #[Iv a0, Iv a5, .slice o z t, Iv ba])] b7 fun b1 bt =>
 ∃ ci : Bool, b1 = .returned (.bool ci) ∧
 (bsplit (!ci)
 ((∃ a1 a6 : Int, ∃ p : OA, ∃ aa u : Nat, ∃ bb : Int, cellsAt bt ⟨b, 0, none⟩ 0 [(Iv a1), (Iv a6), (.slice p aa u), (Iv bb)] ∧
 (sxStore bt ⟨a, 0, none⟩ 0 [(Iv a1), (Iv a6), (.slice p aa u), (Iv bb)] fun b8 =>
 (∃ am aq : Int, ∃ c : OA, ∃ k g : Nat, ∃ aw : Int, cellsAt b8 ⟨a, 0, none⟩ 0 [(Iv am), (Iv aq), (.slice c k g), (Iv aw)] ∧
 R (.tuple #[(.agg #[Iv am, Iv aq, .slice c k g, Iv aw]), (Iv (1 : Int))]) b8))))
 ((CP N_unack_sized #[(.slice data_a data_l data_c)] bt fun b2 al =>
 ∃ b4 : Bool, b2 = .returned (.bool b4) ∧
 (bsplit (!b4)
 ((∃ a2 a7 : Int, ∃ q : OA, ∃ ab v : Nat, ∃ bc : Int, cellsAt al ⟨b, 0, none⟩ 0 [(Iv a2), (Iv a7), (.slice q ab v), (Iv bc)] ∧
 (sxStore al ⟨a, 0, none⟩ 0 [(Iv a2), (Iv a7), (.slice q ab v), (Iv bc)] fun b9 =>
 (∃ an ar : Int, ∃ d : OA, ∃ l h : Nat, ∃ ax : Int, cellsAt b9 ⟨a, 0, none⟩ 0 [(Iv an), (Iv ar), (.slice d l h), (Iv ax)] ∧
 R (.tuple #[(.agg #[Iv an, Iv ar, .slice d l h, Iv ax]), (Iv (2 : Int))]) b9))))
 ((kLdS al ⟨cc, 2, none⟩ fun _ ca _ =>
 (kLet (decide ((ca : Int) = (256 : Int))) fun cj =>
 (bsplit cj
 ((∃ a3 a8 : Int, ∃ r : OA, ∃ ac x : Nat, ∃ bd : Int, cellsAt al ⟨b, 0, none⟩ 0 [(Iv a3), (Iv a8), (.slice r ac x), (Iv bd)] ∧
 (sxStore al ⟨a, 0, none⟩ 0 [(Iv a3), (Iv a8), (.slice r ac x), (Iv bd)] fun bl =>
 (∃ ao au : Int, ∃ e : OA, ∃ m i : Nat, ∃ ay : Int, cellsAt bl ⟨a, 0, none⟩ 0 [(Iv ao), (Iv au), (.slice e m i), (Iv ay)] ∧
 R (.tuple #[(.agg #[Iv ao, Iv au, .slice e m i, Iv ay]), (Iv (13 : Int))]) bl))))
 ((kDrew al fun ah =>
 (∃ cb : Nat → Prop,
 (cb b ∧
 (kLdS ah ⟨b, 2, none⟩ fun bu bz bw =>
 (CP N_slices_Clone_Sbyte_byte #[(.slice data_a data_l data_c)] ah fun b3 bm =>
 ∃ bi : OA, ∃ bk bj : Nat, b3 = .returned (.slice bi bk bj) ∧
 (KeepsB cb ah bm ∧ (kAlloc bm #[(.slice bi bk bj)] Ty_S_uint8 fun cd bn =>
 (KeepsB cb ah bn ∧ (AppP Tryz.prog #[Ty_S_S_uint8, Ty_S_S_uint8] Ty_S_S_uint8 #[(.slice bu bz bw), (.slice (some ⟨cd, 0, none⟩) 1 1)] bn fun bv b0 bx b5 =>
 (kSet b5 ⟨b, 2, none⟩ (.slice bv b0 bx) fun bo =>
 (∃ a4 a9 : Int, ∃ s : OA, ∃ ad y : Nat, ∃ be : Int, cellsAt bo ⟨b, 0, none⟩ 0 [(Iv a4), (Iv a9), (.slice s ad y), (Iv be)] ∧
 (sxStore bo ⟨a, 0, none⟩ 0 [(Iv a4), (Iv a9), (.slice s ad y), (Iv be)] fun bp =>
 (∃ ap av : Int, ∃ f : OA, ∃ n j : Nat, ∃ az : Int, cellsAt bp ⟨a, 0, none⟩ 0 [(Iv ap), (Iv av), (.slice f n j), (Iv az)] ∧
 R (.tuple #[(.agg #[Iv ap, Iv av, .slice f n j, Iv az]), (Iv (0 : Int))]) bp))))))))))))))))))))))))))))))
theorem F_unack_Submit_ok {R : EP} (c_0 c_1 : Int) (c_2_a : OA) (c_2_l c_2_c : Nat) (c_3 : Int) (data_a : OA) (data_l data_c : Nat) (w : World) (h : F_unack_Submit c_0 c_1 c_2_a c_2_l c_2_c c_3 data_a data_l data_c w fun v w' => R (.returned v) w') : CP N_unack_Submit #[(.agg #[Iv c_0, Iv c_1, .slice c_2_a c_2_l c_2_c, Iv c_3]), (.slice data_a data_l data_c)] w R :=
 calls_of (k := TTk) (h := h_unack_Submit) (f := 21) follows_ok Tryz.func21 (Eq.mpr (by kernel_rfl) h)

def h_unack_Build : H := (.seq .reg (.seq .reg (.seq (.block (.seq .reg (.cond (.seq .reg .leaf) (.cut [(19, .p .bool)] [19, 20, 21, 22, 23, 24, 25] .reg (.cond (.seq .reg .leaf) (.seq .reg (.cond (.seq .reg .leaf) .leaf))))))) (.cut [(8, .p .addr), (10, .p (.int .i64))] [8, 9, 10, 33, 34, 35, 36, 37, 38, 39, 40, 41, 42, 43, 44, 45, 46, 47, 48, 49, 50, 51, 52] (.draw .blk (.one 0 .pur (.one 1 .stable (.one 2 .pur (.one 3 .stable (.one 4 .pur (.one 5 .stable (.one 6 .pur (.one 7 .stable (.one 8 .pur (.one 9 .stable (.one 10 .pur (.one 11 .stable (.one 12 .pur (.one 14 .pur (.alt 13 (.alt 15 (.one 16 .pur (.one 17 .pur (.one 18 .pur (.one 19 .pur (.alt 20 (.one 21 .keep (.one 22 .last (.one 23 .last (.one 24 .pur .nil)))) (.alt 21 (.one 20 .keep (.one 22 .last (.one 23 .last (.one 24 .pur .nil)))) .endAlt)))))) (.alt 20 (.alt 15 (.one 16 .pur (.one 17 .pur (.one 18 .pur (.one 19 .pur (.one 21 .keep (.one 22 .last (.one 23 .last (.one 24 .pur .nil)))))))) (.alt 21 (.one 15 .keep (.one 16 .pur (.one 17 .pur (.one 18 .pur (.one 19 .pur (.one 22 .last (.one 23 .last (.one 24 .pur .nil)))))))) .endAlt)) (.alt 21 (.alt 15 (.one 16 .pur (.one 17 .pur (.one 18 .pur (.one 19 .pur (.one 20 .keep (.one 22 .last (.one 23 .last (.one 24 .pur .nil)))))))) (.alt 20 (.one 15 .keep (.one 16 .pur (.one 17 .pur (.one 18 .pur (.one 19 .pur (.one 22 .last (.one 23 .last (.one 24 .pur .nil)))))))) .endAlt)) .endAlt))) (.alt 20 (.alt 13 (.alt 15 (.one 16 .pur (.one 17 .pur (.one 18 .pur (.one 19 .pur (.one 21 .keep (.one 22 .last (.one 23 .last (.one 24 .pur .nil)))))))) (.alt 21 (.one 15 .keep (.one 16 .pur (.one 17 .pur (.one 18 .pur (.one 19 .pur (.one 22 .last (.one 23 .last (.one 24 .pur .nil)))))))) .endAlt)) (.alt 21 (.one 13 .keep (.one 15 .keep (.one 16 .pur (.one 17 .pur (.one 18 .pur (.one 19 .pur (.one 22 .last (.one 23 .last (.one 24 .pur .nil))))))))) .endAlt)) (.alt 21 (.alt 13 (.alt 15 (.one 16 .pur (.one 17 .pur (.one 18 .pur (.one 19 .pur (.one 20 .keep (.one 22 .last (.one 23 .last (.one 24 .pur .nil)))))))) (.alt 20 (.one 15 .keep (.one 16 .pur (.one 17 .pur (.one 18 .pur (.one 19 .pur (.one 22 .last (.one 23 .last (.one 24 .pur .nil)))))))) .endAlt)) (.alt 20 (.one 13 .keep (.one 15 .keep (.one 16 .pur (.one 17 .pur (.one 18 .pur (.one 19 .pur (.one 22 .last (.one 23 .last (.one 24 .pur .nil))))))))) .endAlt)) .endAlt)))))))))))))))))) (.seq (.seq .reg (.cond (.seq .reg .leaf) .leaf)) (.seq .reg (.seq (.seq .reg (.cond (.seq .reg .leaf) .leaf)) (.seq .reg (.seq (.seq (.draw .no (.one 0 .pur (.one 1 .stable (.one 2 .pur (.one 3 .stable (.one 4 .pur (.one 5 .stable (.one 6 .pur (.one 7 .pur .nil))))))))) (.cond (.draw .blk (.one 0 .pur (.one 1 .stable (.one 2 .pur (.one 3 .pur (.one 4 .pre (.one 5 .pur (.one 6 .pre (.one 7 .pur (.one 9 .pur (.one 8 .keep (.one 10 .last (.one 11 .pur (.one 12 .last (.one 13 .pur (.one 14 .last .nil)))))))))))))))) .leaf)) (.seq .reg .leaf))))))))))
def F_unack_Build (c_0 c_1 : Int) (c_2_a : OA) (c_2_l c_2_c : Nat) (c_3 size : Int) (w : World) (R : Value → WP) : Prop :=
 (kAlloc w #[(Iv c_0), (Iv c_1), (.slice c_2_a c_2_l c_2_c), (Iv c_3)] Ty_api_Cutter fun d4 mo =>
 (kAlloc mo #[Iv (0 : Int), Iv (0 : Int), .slice none 0 0, Iv (0 : Int)] Ty_api_Cutter fun m lm =>
 (∃ j3 j4 : Int, ∃ gh : OA, ∃ gj gi : Nat, ∃ j6 : Int, cellsAt lm ⟨d4, 0, none⟩ 0 [(Iv j3), (Iv j4), (.slice gh gj gi), (Iv j6)] ∧
 (CP N_own_Cutter #[(.agg #[Iv j3, Iv j4, .slice gh gj gi, Iv j6])] lm fun mn mp =>
 ∃ i2 i3 : Int, ∃ fp : OA, ∃ fr fq : Nat, ∃ i5 : Int, mn = .returned (.agg #[Iv i2, Iv i3, .slice fp fr fq, Iv i5]) ∧
 (kAlloc mp #[Iv (0 : Int), Iv (0 : Int), .slice none 0 0, Iv (0 : Int)] Ty_api_Cutter fun g mq =>
 (sxStore mq ⟨g, 0, none⟩ 0 [(Iv i2), (Iv i3), (.slice fp fr fq), (Iv i5)] fun lz =>
 (∃ hy h7 : Int, ∃ da : OA, ∃ dr di : Nat, ∃ ih : Int, cellsAt lz ⟨d4, 0, none⟩ 0 [(Iv hy), (Iv h7), (.slice da dr di), (Iv ih)] ∧
 (CP N_unack_Valid #[(.agg #[Iv hy, Iv h7, .slice da dr di, Iv ih])] lz fun k2 iu =>
 ∃ mv : Bool, k2 = .returned (.bool mv) ∧
 (bsplit (!mv)
 ((∃ hz h8 : Int, ∃ db : OA, ∃ ds dj : Nat, ∃ ii : Int, cellsAt iu ⟨g, 0, none⟩ 0 [(Iv hz), (Iv h8), (.slice db ds dj), (Iv ii)] ∧
 (sxStore iu ⟨m, 0, none⟩ 0 [(Iv hz), (Iv h8), (.slice db ds dj), (Iv ii)] fun ma =>
 (∃ gq gy : Int, ∃ bz : OA, ∃ cd b6 : Nat, ∃ he : Int, cellsAt ma ⟨m, 0, none⟩ 0 [(Iv gq), (Iv gy), (.slice bz cd b6), (Iv he)] ∧
 R (.tuple #[(.agg #[Iv gq, Iv gy, .slice bz cd b6, Iv he]), (.slice none 0 0), (Iv (1 : Int))]) ma))))
 ((∃ ml : Bool → WP,
 (∀ (_ : Env) (mf : Bool) (d3 : World), ml mf d3 →
 (bsplit mf
 ((∃ h0 h9 : Int, ∃ dc : OA, ∃ dt dk : Nat, ∃ ij : Int, cellsAt d3 ⟨g, 0, none⟩ 0 [(Iv h0), (Iv h9), (.slice dc dt dk), (Iv ij)] ∧
 (sxStore d3 ⟨m, 0, none⟩ 0 [(Iv h0), (Iv h9), (.slice dc dt dk), (Iv ij)] fun me =>
 (∃ gr gz : Int, ∃ b0 : OA, ∃ ce b7 : Nat, ∃ hf : Int, cellsAt me ⟨m, 0, none⟩ 0 [(Iv gr), (Iv gz), (.slice b0 ce b7), (Iv hf)] ∧
 R (.tuple #[(.agg #[Iv gr, Iv gz, .slice b0 ce b7, Iv hf]), (.slice none 0 0), (Iv (3 : Int))]) me))))
 ((kLdS d3 ⟨d4, 2, none⟩ fun _ mk _ =>
 (kLet (decide ((mk : Int) = (0 : Int))) fun mr =>
 (bsplit mr
 ((∃ h1 ia : Int, ∃ dd : OA, ∃ du dl : Nat, ∃ ik : Int, cellsAt d3 ⟨g, 0, none⟩ 0 [(Iv h1), (Iv ia), (.slice dd du dl), (Iv ik)] ∧
 (sxStore d3 ⟨m, 0, none⟩ 0 [(Iv h1), (Iv ia), (.slice dd du dl), (Iv ik)] fun i6 =>
 (∃ gs g0 : Int, ∃ b1 : OA, ∃ cf b8 : Nat, ∃ hg : Int, cellsAt i6 ⟨m, 0, none⟩ 0 [(Iv gs), (Iv g0), (.slice b1 cf b8), (Iv hg)] ∧
 R (.tuple #[(.agg #[Iv gs, Iv g0, .slice b1 cf b8, Iv hg]), (.slice none 0 0), (Iv (14 : Int))]) i6))))
 ((∃ n : Addr → Int → WP,
 (∀ (_ : Env) (bl : Addr) (j8 : Int) (bj : World), n bl j8 bj →
 (bsplit (!decide (j8 = (0 : Int)))
 ((∃ h2 ib : Int, ∃ de : OA, ∃ dv dm : Nat, ∃ il : Int, cellsAt bj ⟨g, 0, none⟩ 0 [(Iv h2), (Iv ib), (.slice de dv dm), (Iv il)] ∧
 (sxStore bj ⟨m, 0, none⟩ 0 [(Iv h2), (Iv ib), (.slice de dv dm), (Iv il)] fun jx =>
 (∃ en e8 : Int, ∃ b2 : OA, ∃ cg b9 : Nat, ∃ f9 : Int, cellsAt jx ⟨m, 0, none⟩ 0 [(Iv en), (Iv e8), (.slice b2 cg b9), (Iv f9)] ∧
 R (.tuple #[(.agg #[Iv en, Iv e8, .slice b2 cg b9, Iv f9]), (.slice none 0 0), (Iv j8)]) jx))))
 ((kLd bj ⟨d4, 0, none⟩ .i64 fun ms =>
 (∃ h3 ic j5 im : Int, ∃ gk : OA, ∃ gm gl : Nat, cellsAt bj bl 0 [(Iv h3), (Iv ic), (Iv j5), (Iv im), (.slice gk gm gl)] ∧
 (CP N_segment_Encode #[(Iv ms), (.agg #[Iv h3, Iv ic, Iv j5, Iv im, .slice gk gm gl])] bj fun kh c8 =>
 ∃ hm : OA, ∃ ho hn : Nat, ∃ gp : Int, kh = .returned (.tuple #[(.slice hm ho hn), (Iv gp)]) ∧
 (bsplit (!decide (gp = (0 : Int)))
 ((∃ h4 id : Int, ∃ df : OA, ∃ dw dn : Nat, ∃ io : Int, cellsAt c8 ⟨g, 0, none⟩ 0 [(Iv h4), (Iv id), (.slice df dw dn), (Iv io)] ∧
 (sxStore c8 ⟨m, 0, none⟩ 0 [(Iv h4), (Iv id), (.slice df dw dn), (Iv io)] fun jy =>
 (∃ eo e9 : Int, ∃ b3 : OA, ∃ ch ca : Nat, ∃ ga : Int, cellsAt jy ⟨m, 0, none⟩ 0 [(Iv eo), (Iv e9), (.slice b3 ch ca), (Iv ga)] ∧
 R (.tuple #[(.agg #[Iv eo, Iv e9, .slice b3 ch ca, Iv ga]), (.slice none 0 0), (Iv gp)]) jy))))
 ((kLd c8 ⟨g, 3, none⟩ .i64 fun mt =>
 (kLdS c8 (bl.add 4) fun _ kn _ =>
 (kW .i64 (mt + (kn : Int)) fun mu =>
 (kSet c8 ⟨g, 3, none⟩ (Iv mu) fun mb =>
 (kDrew mb fun bk =>
 (kLd bk ⟨g, 3, none⟩ .i64 fun mg =>
 (kLdS bk ⟨g, 2, none⟩ fun kk ko _ =>
 (kIx kk ko (0 : Int) fun kx =>
 (kLdS bk (kx.add ((0 : Int).toNat * 1)) fun _ kp _ =>
 (bsplit (decide (mg = (kp : Int)))
 ((kDrew bk fun c9 =>
 (∃ kq : Nat → Prop,
 (kq g ∧
 (kLdS c9 ⟨g, 2, none⟩ fun kl it ir =>
 ((0 ≤ (1 : Int) ∧ (1 : Int) ≤ ((it : Nat) : Int)) ∧ (kLd c9 ⟨d4, 0, none⟩ .i64 fun mh =>
 (kLd c9 ⟨d4, 1, none⟩ .i64 fun mi =>
 (kW .i64 (mi + (1 : Int)) fun mj =>
 (CP N_serial_Low #[(Iv mh), (Iv mj)] c9 fun ki jz =>
 ∃ i1 : Int, ki = .returned (Iv i1) ∧
 (KeepsB kq c9 jz ∧ (kSet jz ⟨g, 2, none⟩ (.slice (slAddr ir ((1 : Int).toNat) 1 kl) (it - (1 : Int).toNat) (ir - (1 : Int).toNat)) fun mc =>
 (kSet mc ⟨g, 3, none⟩ (Iv (0 : Int)) fun md =>
 (kSet md ⟨g, 1, none⟩ (Iv i1) fun j0 =>
 (∃ h5 ie : Int, ∃ dg : OA, ∃ dx dp : Nat, ∃ ip : Int, cellsAt j0 ⟨g, 0, none⟩ 0 [(Iv h5), (Iv ie), (.slice dg dx dp), (Iv ip)] ∧
 (sxStore j0 ⟨m, 0, none⟩ 0 [(Iv h5), (Iv ie), (.slice dg dx dp), (Iv ip)] fun j1 =>
 (∃ ep fa : Int, ∃ b4 : OA, ∃ ci cb : Nat, ∃ gb : Int, cellsAt j1 ⟨m, 0, none⟩ 0 [(Iv ep), (Iv fa), (.slice b4 ci cb), (Iv gb)] ∧
 R (.tuple #[(.agg #[Iv ep, Iv fa, .slice b4 ci cb, Iv gb]), (.slice hm ho hn), (Iv (0 : Int))]) j1)))))))))))))))))
 ((∃ h6 ig : Int, ∃ dh : OA, ∃ dy dq : Nat, ∃ iq : Int, cellsAt bk ⟨g, 0, none⟩ 0 [(Iv h6), (Iv ig), (.slice dh dy dq), (Iv iq)] ∧
 (sxStore bk ⟨m, 0, none⟩ 0 [(Iv h6), (Iv ig), (.slice dh dy dq), (Iv iq)] fun j2 =>
 (∃ eq fb : Int, ∃ b5 : OA, ∃ cj cc : Nat, ∃ gc : Int, cellsAt j2 ⟨m, 0, none⟩ 0 [(Iv eq), (Iv fb), (.slice b5 cj cc), (Iv gc)] ∧
 R (.tuple #[(.agg #[Iv eq, Iv fb, .slice b5 cj cc, Iv gc]), (.slice hm ho hn), (Iv (0 : Int))]) j2)))))))))))))))))))))) ∧
 (kDrew d3 fun a =>
 (∃ f : Nat → Prop,
 (f d4 ∧
 (kLd a ⟨d4, 0, none⟩ .i64 fun ac =>
 (f d4 ∧
 (kLd a ⟨d4, 1, none⟩ .i64 fun hw =>
 (f d4 ∧
 (kLd a ⟨d4, 3, none⟩ .i64 fun hx =>
 (f g ∧
 (kLdS a ⟨g, 2, none⟩ fun kj km _ =>
 (kIx kj km (0 : Int) fun ky =>
 (f (ky.add ((0 : Int).toNat * 1)).block ∧
 (kLdS a (ky.add ((0 : Int).toNat * 1)) fun ad y e =>
 (f d4 ∧
 (kLd a ⟨d4, 3, none⟩ .i64 fun h =>
 ((0 ≤ h ∧ h ≤ ((y : Nat) : Int)) ∧ ((CP N_unack_piece #[(Iv hw), (Iv hx), (.slice (slAddr e (h.toNat) 1 ad) (y - h.toNat) (e - h.toNat))] a fun kb gg =>
 ∃ i j k l : Int, ∃ b : OA, ∃ d c : Nat, kb = .returned (.agg #[Iv i, Iv j, Iv k, Iv l, .slice b d c]) ∧
 (KeepsB f a gg ∧ ((CP N_segment_Cut #[(Iv ac), (.agg #[Iv i, Iv j, Iv k, Iv l, .slice b d c]), (Iv size)] gg fun kg hv =>
 ∃ bn bq bt bw : Int, ∃ p : OA, ∃ v s : Nat, ∃ bo br bu bx : Int, ∃ q : OA, ∃ x t : Nat, ∃ go : Int, kg = .returned (.tuple #[(.agg #[Iv bn, Iv bq, Iv bt, Iv bw, .slice p v s]), (.agg #[Iv bo, Iv br, Iv bu, Iv bx, .slice q x t]), (Iv go)]) ∧
 (KeepsB f a hv ∧ ((kAlloc hv #[Iv (0 : Int), Iv (0 : Int), Iv (0 : Int), Iv (0 : Int), .slice none 0 0] Ty_api_Piece fun iz jv =>
 (KeepsB f a jv ∧ (kAlloc jv #[Iv (0 : Int), Iv (0 : Int), Iv (0 : Int), Iv (0 : Int), .slice none 0 0] Ty_api_Piece fun kw jw =>
 (KeepsB f a jw ∧ (sxStore jw ⟨iz, 0, none⟩ 0 [(Iv bn), (Iv bq), (Iv bt), (Iv bw), (.slice p v s)] fun l8 =>
 (sxStore l8 ⟨kw, 0, none⟩ 0 [(Iv bo), (Iv br), (Iv bu), (Iv bx), (.slice q x t)] fun l9 =>
 n ⟨iz, 0, none⟩ go l9)))))) ∧
 ((kAlloc hv #[Iv (0 : Int), Iv (0 : Int), Iv (0 : Int), Iv (0 : Int), .slice none 0 0] Ty_api_Piece fun kv jt =>
 (KeepsB f a jt ∧ (kAlloc jt #[Iv (0 : Int), Iv (0 : Int), Iv (0 : Int), Iv (0 : Int), .slice none 0 0] Ty_api_Piece fun iy ju =>
 (KeepsB f a ju ∧ (sxStore ju ⟨iy, 0, none⟩ 0 [(Iv bn), (Iv bq), (Iv bt), (Iv bw), (.slice p v s)] fun l6 =>
 (sxStore l6 ⟨kv, 0, none⟩ 0 [(Iv bo), (Iv br), (Iv bu), (Iv bx), (.slice q x t)] fun l7 =>
 n ⟨iy, 0, none⟩ go l7)))))) ∧
 True)))) ∧
 ((kAlloc gg #[Iv (0 : Int), Iv (0 : Int), Iv (0 : Int), Iv (0 : Int), .slice none 0 0] Ty_api_Piece fun d5 hu =>
 (KeepsB f a hu ∧ ((CP N_segment_Cut #[(Iv ac), (.agg #[Iv i, Iv j, Iv k, Iv l, .slice b d c]), (Iv size)] hu fun kf jr =>
 ∃ el e6 fn f7 : Int, ∃ ap : OA, ∃ bh a4 : Nat, ∃ em e7 fo f8 : Int, ∃ aq : OA, ∃ bi a5 : Nat, ∃ i0 : Int, kf = .returned (.tuple #[(.agg #[Iv el, Iv e6, Iv fn, Iv f7, .slice ap bh a4]), (.agg #[Iv em, Iv e7, Iv fo, Iv f8, .slice aq bi a5]), (Iv i0)]) ∧
 (KeepsB f a jr ∧ (kAlloc jr #[Iv (0 : Int), Iv (0 : Int), Iv (0 : Int), Iv (0 : Int), .slice none 0 0] Ty_api_Piece fun ku js =>
 (KeepsB f a js ∧ (sxStore js ⟨d5, 0, none⟩ 0 [(Iv el), (Iv e6), (Iv fn), (Iv f7), (.slice ap bh a4)] fun l4 =>
 (sxStore l4 ⟨ku, 0, none⟩ 0 [(Iv em), (Iv e7), (Iv fo), (Iv f8), (.slice aq bi a5)] fun l5 =>
 n ⟨d5, 0, none⟩ i0 l5)))))) ∧
 ((kAlloc hu #[Iv (0 : Int), Iv (0 : Int), Iv (0 : Int), Iv (0 : Int), .slice none 0 0] Ty_api_Piece fun kt jp =>
 (KeepsB f a jp ∧ (CP N_segment_Cut #[(Iv ac), (.agg #[Iv i, Iv j, Iv k, Iv l, .slice b d c]), (Iv size)] jp fun ke jq =>
 ∃ ej e4 fl f5 : Int, ∃ an : OA, ∃ bf a2 : Nat, ∃ ek e5 fm f6 : Int, ∃ ao : OA, ∃ bg a3 : Nat, ∃ lj : Int, ke = .returned (.tuple #[(.agg #[Iv ej, Iv e4, Iv fl, Iv f5, .slice an bf a2]), (.agg #[Iv ek, Iv e5, Iv fm, Iv f6, .slice ao bg a3]), (Iv lj)]) ∧
 (KeepsB f a jq ∧ (sxStore jq ⟨d5, 0, none⟩ 0 [(Iv ej), (Iv e4), (Iv fl), (Iv f5), (.slice an bf a2)] fun l2 =>
 (sxStore l2 ⟨kt, 0, none⟩ 0 [(Iv ek), (Iv e5), (Iv fm), (Iv f6), (.slice ao bg a3)] fun l3 =>
 n ⟨d5, 0, none⟩ lj l3)))))) ∧
 True)))) ∧
 ((kAlloc gg #[Iv (0 : Int), Iv (0 : Int), Iv (0 : Int), Iv (0 : Int), .slice none 0 0] Ty_api_Piece fun iv ht =>
 (KeepsB f a ht ∧ ((CP N_segment_Cut #[(Iv ac), (.agg #[Iv i, Iv j, Iv k, Iv l, .slice b d c]), (Iv size)] ht fun kd jn =>
 ∃ eh e2 fj f3 : Int, ∃ al : OA, ∃ bd a0 : Nat, ∃ ei e3 fk f4 : Int, ∃ am : OA, ∃ be a1 : Nat, ∃ li : Int, kd = .returned (.tuple #[(.agg #[Iv eh, Iv e2, Iv fj, Iv f3, .slice al bd a0]), (.agg #[Iv ei, Iv e3, Iv fk, Iv f4, .slice am be a1]), (Iv li)]) ∧
 (KeepsB f a jn ∧ (kAlloc jn #[Iv (0 : Int), Iv (0 : Int), Iv (0 : Int), Iv (0 : Int), .slice none 0 0] Ty_api_Piece fun ix jo =>
 (KeepsB f a jo ∧ (sxStore jo ⟨ix, 0, none⟩ 0 [(Iv eh), (Iv e2), (Iv fj), (Iv f3), (.slice al bd a0)] fun l0 =>
 (sxStore l0 ⟨iv, 0, none⟩ 0 [(Iv ei), (Iv e3), (Iv fk), (Iv f4), (.slice am be a1)] fun l1 =>
 n ⟨ix, 0, none⟩ li l1)))))) ∧
 ((kAlloc ht #[Iv (0 : Int), Iv (0 : Int), Iv (0 : Int), Iv (0 : Int), .slice none 0 0] Ty_api_Piece fun iw jl =>
 (KeepsB f a jl ∧ (CP N_segment_Cut #[(Iv ac), (.agg #[Iv i, Iv j, Iv k, Iv l, .slice b d c]), (Iv size)] jl fun kc jm =>
 ∃ ef e0 fh f1 : Int, ∃ aj : OA, ∃ bb ay : Nat, ∃ eg e1 fi f2 : Int, ∃ ak : OA, ∃ bc az : Nat, ∃ lh : Int, kc = .returned (.tuple #[(.agg #[Iv ef, Iv e0, Iv fh, Iv f1, .slice aj bb ay]), (.agg #[Iv eg, Iv e1, Iv fi, Iv f2, .slice ak bc az]), (Iv lh)]) ∧
 (KeepsB f a jm ∧ (sxStore jm ⟨iw, 0, none⟩ 0 [(Iv ef), (Iv e0), (Iv fh), (Iv f1), (.slice aj bb ay)] fun lx =>
 (sxStore lx ⟨iv, 0, none⟩ 0 [(Iv eg), (Iv e1), (Iv fi), (Iv f2), (.slice ak bc az)] fun ly =>
 n ⟨iw, 0, none⟩ lh ly)))))) ∧
 True)))) ∧
 True))))) ∧
 ((kAlloc a #[Iv (0 : Int), Iv (0 : Int), Iv (0 : Int), Iv (0 : Int), .slice none 0 0] Ty_api_Piece fun gn hr =>
 (KeepsB f a hr ∧ ((CP N_unack_piece #[(Iv hw), (Iv hx), (.slice (slAddr e (h.toNat) 1 ad) (y - h.toNat) (e - h.toNat))] hr fun la hs =>
 ∃ bm bp bs bv : Int, ∃ o : OA, ∃ u r : Nat, la = .returned (.agg #[Iv bm, Iv bp, Iv bs, Iv bv, .slice o u r]) ∧
 (KeepsB f a hs ∧ ((CP N_segment_Cut #[(Iv ac), (.agg #[Iv bm, Iv bp, Iv bs, Iv bv, .slice o u r]), (Iv size)] hs fun ka jj =>
 ∃ ed ey ff fz : Int, ∃ ah : OA, ∃ a9 aw : Nat, ∃ ee ez fg f0 : Int, ∃ ai : OA, ∃ ba ax : Nat, ∃ lg : Int, ka = .returned (.tuple #[(.agg #[Iv ed, Iv ey, Iv ff, Iv fz, .slice ah a9 aw]), (.agg #[Iv ee, Iv ez, Iv fg, Iv f0, .slice ai ba ax]), (Iv lg)]) ∧
 (KeepsB f a jj ∧ (kAlloc jj #[Iv (0 : Int), Iv (0 : Int), Iv (0 : Int), Iv (0 : Int), .slice none 0 0] Ty_api_Piece fun ks jk =>
 (KeepsB f a jk ∧ (sxStore jk ⟨gn, 0, none⟩ 0 [(Iv ed), (Iv ey), (Iv ff), (Iv fz), (.slice ah a9 aw)] fun lv =>
 (sxStore lv ⟨ks, 0, none⟩ 0 [(Iv ee), (Iv ez), (Iv fg), (Iv f0), (.slice ai ba ax)] fun lw =>
 n ⟨gn, 0, none⟩ lg lw)))))) ∧
 ((kAlloc hs #[Iv (0 : Int), Iv (0 : Int), Iv (0 : Int), Iv (0 : Int), .slice none 0 0] Ty_api_Piece fun kr jh =>
 (KeepsB f a jh ∧ (CP N_segment_Cut #[(Iv ac), (.agg #[Iv bm, Iv bp, Iv bs, Iv bv, .slice o u r]), (Iv size)] jh fun j9 ji =>
 ∃ eb ew fd fx : Int, ∃ af : OA, ∃ a7 au : Nat, ∃ ec ex fe fy : Int, ∃ ag : OA, ∃ a8 av : Nat, ∃ lf : Int, j9 = .returned (.tuple #[(.agg #[Iv eb, Iv ew, Iv fd, Iv fx, .slice af a7 au]), (.agg #[Iv ec, Iv ex, Iv fe, Iv fy, .slice ag a8 av]), (Iv lf)]) ∧
 (KeepsB f a ji ∧ (sxStore ji ⟨gn, 0, none⟩ 0 [(Iv eb), (Iv ew), (Iv fd), (Iv fx), (.slice af a7 au)] fun lt =>
 (sxStore lt ⟨kr, 0, none⟩ 0 [(Iv ec), (Iv ex), (Iv fe), (Iv fy), (.slice ag a8 av)] fun lu =>
 n ⟨gn, 0, none⟩ lf lu)))))) ∧
 True)))) ∧
 ((kAlloc hr #[Iv (0 : Int), Iv (0 : Int), Iv (0 : Int), Iv (0 : Int), .slice none 0 0] Ty_api_Piece fun mm je =>
 (KeepsB f a je ∧ (CP N_unack_piece #[(Iv hw), (Iv hx), (.slice (slAddr e (h.toNat) 1 ad) (y - h.toNat) (e - h.toNat))] je fun k8 jf =>
 ∃ d8 et hc fu : Int, ∃ cq : OA, ∃ c6 cy : Nat, k8 = .returned (.agg #[Iv d8, Iv et, Iv hc, Iv fu, .slice cq c6 cy]) ∧
 (KeepsB f a jf ∧ (CP N_segment_Cut #[(Iv ac), (.agg #[Iv d8, Iv et, Iv hc, Iv fu, .slice cq c6 cy]), (Iv size)] jf fun k9 jg =>
 ∃ d9 eu hd fv : Int, ∃ cr : OA, ∃ c7 cz : Nat, ∃ ea ev fc fw : Int, ∃ ae : OA, ∃ a6 ar : Nat, ∃ le : Int, k9 = .returned (.tuple #[(.agg #[Iv d9, Iv eu, Iv hd, Iv fv, .slice cr c7 cz]), (.agg #[Iv ea, Iv ev, Iv fc, Iv fw, .slice ae a6 ar]), (Iv le)]) ∧
 (KeepsB f a jg ∧ (sxStore jg ⟨gn, 0, none⟩ 0 [(Iv d9), (Iv eu), (Iv hd), (Iv fv), (.slice cr c7 cz)] fun lr =>
 (sxStore lr ⟨mm, 0, none⟩ 0 [(Iv ea), (Iv ev), (Iv fc), (Iv fw), (.slice ae a6 ar)] fun ls =>
 n ⟨gn, 0, none⟩ le ls)))))))) ∧
 True)))) ∧
 ((kAlloc a #[Iv (0 : Int), Iv (0 : Int), Iv (0 : Int), Iv (0 : Int), .slice none 0 0] Ty_api_Piece fun j7 hp =>
 (KeepsB f a hp ∧ ((CP N_unack_piece #[(Iv hw), (Iv hx), (.slice (slAddr e (h.toNat) 1 ad) (y - h.toNat) (e - h.toNat))] hp fun k5 hq =>
 ∃ dz d0 d1 d2 : Int, ∃ z : OA, ∃ ab aa : Nat, k5 = .returned (.agg #[Iv dz, Iv d0, Iv d1, Iv d2, .slice z ab aa]) ∧
 (KeepsB f a hq ∧ ((CP N_segment_Cut #[(Iv ac), (.agg #[Iv dz, Iv d0, Iv d1, Iv d2, .slice z ab aa]), (Iv size)] hq fun k7 jc =>
 ∃ d6 er ha fs : Int, ∃ co : OA, ∃ c4 cw : Nat, ∃ d7 es hb ft : Int, ∃ cp : OA, ∃ c5 cx : Nat, ∃ ld : Int, k7 = .returned (.tuple #[(.agg #[Iv d6, Iv er, Iv ha, Iv fs, .slice co c4 cw]), (.agg #[Iv d7, Iv es, Iv hb, Iv ft, .slice cp c5 cx]), (Iv ld)]) ∧
 (KeepsB f a jc ∧ (kAlloc jc #[Iv (0 : Int), Iv (0 : Int), Iv (0 : Int), Iv (0 : Int), .slice none 0 0] Ty_api_Piece fun k1 jd =>
 (KeepsB f a jd ∧ (sxStore jd ⟨k1, 0, none⟩ 0 [(Iv d6), (Iv er), (Iv ha), (Iv fs), (.slice co c4 cw)] fun lp =>
 (sxStore lp ⟨j7, 0, none⟩ 0 [(Iv d7), (Iv es), (Iv hb), (Iv ft), (.slice cp c5 cx)] fun lq =>
 n ⟨k1, 0, none⟩ ld lq)))))) ∧
 ((kAlloc hq #[Iv (0 : Int), Iv (0 : Int), Iv (0 : Int), Iv (0 : Int), .slice none 0 0] Ty_api_Piece fun k0 ja =>
 (KeepsB f a ja ∧ (CP N_segment_Cut #[(Iv ac), (.agg #[Iv dz, Iv d0, Iv d1, Iv d2, .slice z ab aa]), (Iv size)] ja fun k6 jb =>
 ∃ gw g4 g8 hk : Int, ∃ cm : OA, ∃ c2 cu : Nat, ∃ gx g5 g9 hl : Int, ∃ cn : OA, ∃ c3 cv : Nat, ∃ lc : Int, k6 = .returned (.tuple #[(.agg #[Iv gw, Iv g4, Iv g8, Iv hk, .slice cm c2 cu]), (.agg #[Iv gx, Iv g5, Iv g9, Iv hl, .slice cn c3 cv]), (Iv lc)]) ∧
 (KeepsB f a jb ∧ (sxStore jb ⟨k0, 0, none⟩ 0 [(Iv gw), (Iv g4), (Iv g8), (Iv hk), (.slice cm c2 cu)] fun ln =>
 (sxStore ln ⟨j7, 0, none⟩ 0 [(Iv gx), (Iv g5), (Iv g9), (Iv hl), (.slice cn c3 cv)] fun lo =>
 n ⟨k0, 0, none⟩ lc lo)))))) ∧
 True)))) ∧
 ((kAlloc hp #[Iv (0 : Int), Iv (0 : Int), Iv (0 : Int), Iv (0 : Int), .slice none 0 0] Ty_api_Piece fun kz i7 =>
 (KeepsB f a i7 ∧ (CP N_unack_piece #[(Iv hw), (Iv hx), (.slice (slAddr e (h.toNat) 1 ad) (y - h.toNat) (e - h.toNat))] i7 fun k3 i8 =>
 ∃ gt g1 i4 hh : Int, ∃ gd : OA, ∃ gf ge : Nat, k3 = .returned (.agg #[Iv gt, Iv g1, Iv i4, Iv hh, .slice gd gf ge]) ∧
 (KeepsB f a i8 ∧ (CP N_segment_Cut #[(Iv ac), (.agg #[Iv gt, Iv g1, Iv i4, Iv hh, .slice gd gf ge]), (Iv size)] i8 fun k4 i9 =>
 ∃ gu g2 g6 hi : Int, ∃ ck : OA, ∃ c0 cs : Nat, ∃ gv g3 g7 hj : Int, ∃ cl : OA, ∃ c1 ct : Nat, ∃ lb : Int, k4 = .returned (.tuple #[(.agg #[Iv gu, Iv g2, Iv g6, Iv hi, .slice ck c0 cs]), (.agg #[Iv gv, Iv g3, Iv g7, Iv hj, .slice cl c1 ct]), (Iv lb)]) ∧
 (KeepsB f a i9 ∧ (sxStore i9 ⟨kz, 0, none⟩ 0 [(Iv gu), (Iv g2), (Iv g6), (Iv hi), (.slice ck c0 cs)] fun lk =>
 (sxStore lk ⟨j7, 0, none⟩ 0 [(Iv gv), (Iv g3), (Iv g7), (Iv hj), (.slice cl c1 ct)] fun ll =>
 n ⟨kz, 0, none⟩ lb ll)))))))) ∧
 True)))) ∧
 True))))))))))))))))))))))))))) ∧
 (bsplit (decide (size < (0 : Int)))
 (ml true iu)
 ((kLet (decide (size > (4096 : Int))) fun mw =>
 ml mw iu))))))))))))))
theorem F_unack_Build_ok {R : EP} (c_0 c_1 : Int) (c_2_a : OA) (c_2_l c_2_c : Nat) (c_3 size : Int) (w : World) (h : F_unack_Build c_0 c_1 c_2_a c_2_l c_2_c c_3 size w fun v w' => R (.returned v) w') : CP N_unack_Build #[(.agg #[Iv c_0, Iv c_1, .slice c_2_a c_2_l c_2_c, Iv c_3]), (Iv size)] w R :=
 calls_of (k := TTk) (h := h_unack_Build) (f := 22) follows_ok Tryz.func22 (Eq.mpr (by kernel_rfl) h)

def h_unack_Waiting : H := (.seq .reg (.seq (.seq .reg (.cond (.seq .reg .leaf) .leaf)) (.seq .reg (.seq (.seq .reg (.block (.loop [(3, .p (.int .i64)), (15, .p (.int .i64))] [3, 5, 15, 16, 17, 18, 19, 20, 21, 22, 23] (.seq .reg (.seq (.cond .leaf .leaf) (.seq (.block (.seq .reg .reg)) .reg)))))) (.seq .reg .leaf)))))
def F_unack_Waiting (c_0 c_1 : Int) (c_2_a : OA) (c_2_l c_2_c : Nat) (c_3 : Int) (w : World) (R : Value → WP) : Prop :=
 (kAlloc w #[(Iv c_0), (Iv c_1), (.slice c_2_a c_2_l c_2_c), (Iv c_3)] Ty_api_Cutter fun r m =>
 (∃ g h : Int, ∃ a : OA, ∃ c b : Nat, ∃ i : Int, cellsAt m ⟨r, 0, none⟩ 0 [(Iv g), (Iv h), (.slice a c b), (Iv i)] ∧
 (CP N_unack_Valid #[(.agg #[Iv g, Iv h, .slice a c b, Iv i])] m fun t e =>
 ∃ v : Bool, t = .returned (.bool v) ∧
 (bsplit (!v)
 (R (Iv (0 : Int)) e)
 ((kLd e ⟨r, 3, none⟩ .i64 fun x =>
 (kW .i64 (0 - x) fun u =>
 (kLdS e ⟨r, 2, none⟩ fun p j _ =>
 (∃ l : Int → Int → Nat × (WP), (l u (0 : Int)).2 e ∧
 (∀ (_ : Env) (q : Int) (d : Int) (f : World), (l q d).2 f →
 (bsplit (decide (d < (j : Int)))
 ((kIx p j d fun s =>
 (kLdS f (s.add (d.toNat * 1)) fun _ k _ =>
 (kW .i64 (q + (k : Int)) fun n =>
 (kW .i64 (d + (1 : Int)) fun o =>
 ((l n o).2 f ∧ (l n o).1 < (l q d).1))))))
 (R (Iv q) f))))))))))))
theorem F_unack_Waiting_ok {R : EP} (c_0 c_1 : Int) (c_2_a : OA) (c_2_l c_2_c : Nat) (c_3 : Int) (w : World) (h : F_unack_Waiting c_0 c_1 c_2_a c_2_l c_2_c c_3 w fun v w' => R (.returned v) w') : CP N_unack_Waiting #[(.agg #[Iv c_0, Iv c_1, .slice c_2_a c_2_l c_2_c, Iv c_3])] w R :=
 calls_of (k := TTk) (h := h_unack_Waiting) (f := 23) follows_ok Tryz.func23 (Eq.mpr (by kernel_rfl) h)

def h_unack_Valid : H := (.seq .reg (.seq (.cut [(30, .p .bool)] [3, 4, 5, 6, 7, 8, 9, 10, 11, 12, 13, 14, 15, 16, 17, 18, 19, 20, 21, 22, 23, 24, 25, 26, 27, 28, 29, 30] (.draw .blk (.one 0 .pur (.one 1 .pre (.one 2 .keep (.one 3 .pur (.one 4 .pur (.one 5 .pur (.one 6 .stable (.one 7 .pur (.one 8 .pur (.one 9 .pur (.one 10 .pur (.one 11 .stable (.one 12 .pur (.one 13 .stable (.one 14 .pur (.one 15 .pur (.one 16 .pur (.one 17 .pur (.one 18 .pur (.one 19 .stable (.one 20 .pur (.one 21 .pur (.one 22 .pur (.one 23 .pur (.one 24 .pur (.one 25 .stable (.one 26 .pur (.one 27 .pur .nil))))))))))))))))))))))))))))) (.cond (.seq .reg .leaf) .leaf)) (.seq (.seq .reg (.cond (.seq .reg .leaf) .leaf)) (.seq (.draw .no (.one 0 .pur (.one 1 .stable (.one 2 .pur (.one 3 .pur (.one 4 .pur (.one 5 .stable (.one 6 .pur (.one 7 .pur (.one 8 .pur (.one 9 .pur (.one 10 .stable (.one 11 .pur (.one 12 .stable (.one 13 .pur (.one 14 .stable (.one 15 .pur (.one 16 .pur (.one 17 .pur (.one 18 .pur (.one 19 .pur .nil))))))))))))))))))))) .leaf))))
def F_unack_Valid (c_0 c_1 : Int) (c_2_a : OA) (c_2_l c_2_c : Nat) (c_3 : Int) (w : World) (R : Value → WP) : Prop :=
 (kAlloc w #[(Iv c_0), (Iv c_1), (.slice c_2_a c_2_l c_2_c), (Iv c_3)] Ty_api_Cutter fun c x =>
 (∃ m : Bool → WP,
 (∀ (_ : Env) (s : Bool) (e : World), m s e →
 (bsplit s
 (R (.bool false) e)
 ((kLdS e ⟨c, 2, none⟩ fun f i h =>
 (CP N_slices_ContainsFunc_SSbyte_Sbyte #[(.slice f i h), (.func (.func N_unack_Valid_1) #[] #[])] e fun o q =>
 ∃ p : Bool, o = .returned (.bool p) ∧
 (bsplit p
 (R (.bool false) q)
 ((kDrew q fun b =>
 (kLd b ⟨c, 3, none⟩ .i64 fun ac =>
 (bsplit (decide (ac = (0 : Int)))
 (R (.bool true) b)
 ((kLdS b ⟨c, 2, none⟩ fun _ j _ =>
 (bsplit (decide ((j : Int) > (0 : Int)))
 ((kLd b ⟨c, 3, none⟩ .i64 fun ad =>
 (kLdS b ⟨c, 2, none⟩ fun g k _ =>
 (kIx g k (0 : Int) fun u =>
 (kLdS b (u.add ((0 : Int).toNat * 1)) fun _ l _ =>
 (kLet (decide (ad < (l : Int))) fun ae =>
 R (.bool ae) b))))))
 (R (.bool false) b)))))))))))))) ∧
 (kDrew x fun a =>
 (∃ n : Nat → Prop,
 (kLd a ⟨c, 0, none⟩ .i64 fun ag =>
 (CP N_unack_bitsValid #[(Iv ag)] a fun v d =>
 ∃ af : Bool, v = .returned (.bool af) ∧
 (KeepsB n a d ∧ (bsplit (!af)
 (m true d)
 ((n c ∧
 (kLd a ⟨c, 1, none⟩ .i64 fun y =>
 (bsplit (decide (y < (0 : Int)))
 (m true d)
 ((n c ∧
 (kLd a ⟨c, 1, none⟩ .i64 fun z =>
 (n c ∧
 (kLd a ⟨c, 0, none⟩ .i64 fun r =>
 (0 ≤ r ∧ (kW .i64 ((1 : Int) * 2 ^ (min r.toNat (IntKind.bits .i64))) fun aa =>
 (bsplit (decide (z ≥ aa))
 (m true d)
 ((n c ∧
 (kLdS a ⟨c, 2, none⟩ fun _ t _ =>
 (bsplit (decide ((t : Int) > (256 : Int)))
 (m true d)
 ((n c ∧
 (kLd a ⟨c, 3, none⟩ .i64 fun ab =>
 m (decide (ab < (0 : Int))) d)))))))))))))))))))))))))))
theorem F_unack_Valid_ok {R : EP} (c_0 c_1 : Int) (c_2_a : OA) (c_2_l c_2_c : Nat) (c_3 : Int) (w : World) (h : F_unack_Valid c_0 c_1 c_2_a c_2_l c_2_c c_3 w fun v w' => R (.returned v) w') : CP N_unack_Valid #[(.agg #[Iv c_0, Iv c_1, .slice c_2_a c_2_l c_2_c, Iv c_3])] w R :=
 calls_of (k := TTk) (h := h_unack_Valid) (f := 24) follows_ok Tryz.func24 (Eq.mpr (by kernel_rfl) h)

def h_ref21_New : H := (.seq .reg (.seq (.seq .reg (.cond (.seq .reg .leaf) .leaf)) (.seq .reg .leaf)))
def F_ref21_New (l_0 l_1 l_2 l_3 l_4 l_5 : Int) (w : World) (R : Value → WP) : Prop :=
 (kAlloc w #[(Iv l_0), (Iv l_1), (Iv l_2), (Iv l_3), (Iv l_4), (Iv l_5)] Ty_api_Link fun a2 a1 =>
 (kAlloc a1 #[Iv (0 : Int), Iv (0 : Int), Iv (0 : Int), Iv (0 : Int), Iv (0 : Int), Iv (0 : Int), Iv (0 : Int), Iv (0 : Int), Iv (0 : Int), Iv (0 : Int), Iv (0 : Int), Iv (0 : Int), .bool false, .slice none 0 0] Ty_api_Receiver fun ad ax =>
 (∃ ao ap aq ar au av : Int, cellsAt ax ⟨a2, 0, none⟩ 0 [(Iv ao), (Iv ap), (Iv aq), (Iv ar), (Iv au), (Iv av)] ∧
 (CP N_ref20_ValidLink #[(.agg #[Iv ao, Iv ap, Iv aq, Iv ar, Iv au, Iv av])] ax fun a0 aw =>
 ∃ a3 : Bool, a0 = .returned (.bool a3) ∧
 (bsplit (!a3)
 ((sxStore aw ⟨ad, 0, none⟩ 0 [(Iv (0 : Int)), (Iv (0 : Int)), (Iv (0 : Int)), (Iv (0 : Int)), (Iv (0 : Int)), (Iv (0 : Int)), (Iv (0 : Int)), (Iv (0 : Int)), (Iv (0 : Int)), (Iv (0 : Int)), (Iv (0 : Int)), (Iv (0 : Int)), (.bool false), (.slice none 0 0)] fun ay =>
 (∃ ae af ag ah ai aj ak al am an k l : Int, ∃ m : Bool, ∃ d : OA, ∃ f e : Nat, cellsAt ay ⟨ad, 0, none⟩ 0 [(Iv ae), (Iv af), (Iv ag), (Iv ah), (Iv ai), (Iv aj), (Iv ak), (Iv al), (Iv am), (Iv an), (Iv k), (Iv l), (.bool m), (.slice d f e)] ∧
 R (.tuple #[(.agg #[Iv ae, Iv af, Iv ag, Iv ah, Iv ai, Iv aj, Iv ak, Iv al, Iv am, Iv an, Iv k, Iv l, .bool m, .slice d f e]), (Iv (3 : Int))]) ay)))
 ((∃ x y z aa ab ac : Int, cellsAt aw ⟨a2, 0, none⟩ 0 [(Iv x), (Iv y), (Iv z), (Iv aa), (Iv ab), (Iv ac)] ∧
 (sxStore aw ⟨ad, 0, none⟩ 0 [(Iv x), (Iv y), (Iv z), (Iv aa), (Iv ab), (Iv ac), (Iv (0 : Int)), (Iv (0 : Int)), (Iv (0 : Int)), (Iv (-1 : Int)), (Iv (0 : Int)), (Iv (0 : Int)), (.bool false), (.slice none 0 0)] fun az =>
 (∃ j n o p q r s t u v g h : Int, ∃ i : Bool, ∃ a : OA, ∃ c b : Nat, cellsAt az ⟨ad, 0, none⟩ 0 [(Iv j), (Iv n), (Iv o), (Iv p), (Iv q), (Iv r), (Iv s), (Iv t), (Iv u), (Iv v), (Iv g), (Iv h), (.bool i), (.slice a c b)] ∧
 R (.tuple #[(.agg #[Iv j, Iv n, Iv o, Iv p, Iv q, Iv r, Iv s, Iv t, Iv u, Iv v, Iv g, Iv h, .bool i, .slice a c b]), (Iv (0 : Int))]) az)))))))))
theorem F_ref21_New_ok {R : EP} (l_0 l_1 l_2 l_3 l_4 l_5 : Int) (w : World) (h : F_ref21_New l_0 l_1 l_2 l_3 l_4 l_5 w fun v w' => R (.returned v) w') : CP N_ref21_New #[(.agg #[Iv l_0, Iv l_1, Iv l_2, Iv l_3, Iv l_4, Iv l_5])] w R :=
 calls_of (k := TTk) (h := h_ref21_New) (f := 25) follows_ok Tryz.func25 (Eq.mpr (by kernel_rfl) h)

def h_ref23_Link : H := (.seq .reg (.seq .reg .leaf))
def F_ref23_Link (n wait : Int) (w : World) (R : Value → WP) : Prop :=
 (kAlloc w #[Iv (0 : Int), Iv (0 : Int), Iv (0 : Int), Iv (0 : Int), Iv (0 : Int), Iv (0 : Int)] Ty_api_Link fun i h =>
 (sxStore h ⟨i, 0, none⟩ 0 [(Iv n), (Iv (1 : Int)), (Iv (1 : Int)), (Iv wait), (Iv (0 : Int)), (Iv (1 : Int))] fun g =>
 (∃ a b c d e f : Int, cellsAt g ⟨i, 0, none⟩ 0 [(Iv a), (Iv b), (Iv c), (Iv d), (Iv e), (Iv f)] ∧
 R (.agg #[Iv a, Iv b, Iv c, Iv d, Iv e, Iv f]) g)))
theorem F_ref23_Link_ok {R : EP} (n wait : Int) (w : World) (h : F_ref23_Link n wait w fun v w' => R (.returned v) w') : CP N_ref23_Link #[(Iv n), (Iv wait)] w R :=
 calls_of (k := TTk) (h := h_ref23_Link) (f := 26) follows_ok Tryz.func26 (Eq.mpr (by kernel_rfl) h)

def h_roll_Mod : H := (.seq .reg (.seq (.seq .reg (.cond (.seq .reg .leaf) .leaf)) (.seq .reg .leaf)))
def F_roll_Mod (x n : Int) (w : World) (R : Value → WP) : Prop :=
 (bsplit (decide (n < (1 : Int)))
 (R (Iv (0 : Int)) w)
 ((n ≠ 0 ∧ (kLet (Int.tmod x n) fun a =>
 (kW .i64 (a + n) fun b =>
 (n ≠ 0 ∧ (kLet (Int.tmod b n) fun c =>
 R (Iv c) w)))))))
theorem F_roll_Mod_ok {R : EP} (x n : Int) (w : World) (h : F_roll_Mod x n w fun v w' => R (.returned v) w') : CP N_roll_Mod #[(Iv x), (Iv n)] w R :=
 calls_of (k := TTk) (h := h_roll_Mod) (f := 27) follows_ok Tryz.func27 (Eq.mpr (by kernel_rfl) h)

def h_law23_same : H := (.seq .reg (.seq .reg .leaf))
def F_law23_same (a_0 a_1 : Int) (a_2_a : OA) (a_2_l a_2_c : Nat) (a_3 b_0 b_1 : Int) (b_2_a : OA) (b_2_l b_2_c : Nat) (b_3 : Int) (w : World) (R : Value → WP) : Prop :=
 (kAlloc w #[(Iv a_0), (Iv a_1), (.slice a_2_a a_2_l a_2_c), (Iv a_3)] Ty_api_Cutter fun i k =>
 (kAlloc k #[(Iv b_0), (Iv b_1), (.slice b_2_a b_2_l b_2_c), (Iv b_3)] Ty_api_Cutter fun b a =>
 (kLd a ⟨i, 0, none⟩ .i64 fun s =>
 (kLd a ⟨b, 0, none⟩ .i64 fun m =>
 (bsplit (decide (s = m))
 ((kLd a ⟨i, 1, none⟩ .i64 fun n =>
 (kLd a ⟨b, 1, none⟩ .i64 fun o =>
 (bsplit (decide (n = o))
 ((kLd a ⟨i, 3, none⟩ .i64 fun p =>
 (kLd a ⟨b, 3, none⟩ .i64 fun q =>
 (bsplit (decide (p = q))
 ((kLdS a ⟨i, 2, none⟩ fun f h g =>
 (kLdS a ⟨b, 2, none⟩ fun c e d =>
 (CP N_roll_SameAll #[(.slice f h g), (.slice c e d)] a fun j l =>
 ∃ r : Bool, j = .returned (.bool r) ∧
 R (.bool r) l))))
 (R (.bool false) a)))))
 (R (.bool false) a)))))
 (R (.bool false) a))))))
theorem F_law23_same_ok {R : EP} (a_0 a_1 : Int) (a_2_a : OA) (a_2_l a_2_c : Nat) (a_3 b_0 b_1 : Int) (b_2_a : OA) (b_2_l b_2_c : Nat) (b_3 : Int) (w : World) (h : F_law23_same a_0 a_1 a_2_a a_2_l a_2_c a_3 b_0 b_1 b_2_a b_2_l b_2_c b_3 w fun v w' => R (.returned v) w') : CP N_law23_same #[(.agg #[Iv a_0, Iv a_1, .slice a_2_a a_2_l a_2_c, Iv a_3]), (.agg #[Iv b_0, Iv b_1, .slice b_2_a b_2_l b_2_c, Iv b_3])] w R :=
 calls_of (k := TTk) (h := h_law23_same) (f := 28) follows_ok Tryz.func28 (Eq.mpr (by kernel_rfl) h)

def h_ref23_Valid : H := (.seq .reg (.seq (.cut [(32, .p .bool)] [4, 5, 6, 7, 8, 9, 10, 11, 12, 13, 14, 15, 16, 17, 18, 19, 20, 21, 22, 23, 24, 25, 26, 27, 28, 29, 30, 31, 32] .reg (.cond (.seq .reg .leaf) .leaf)) (.seq (.seq .reg (.block (.loop [(3, .p (.int .i64))] [2, 3, 33, 34, 35, 36, 37, 38, 39, 40, 41, 42, 43, 44, 45, 46, 47, 48, 49, 50, 51, 52, 53, 54, 55] (.seq (.seq .reg (.cond .leaf .leaf)) (.seq (.block (.seq .reg (.cond (.seq .reg .leaf) .leaf))) .reg))))) (.seq (.seq .reg (.cond (.seq .reg .leaf) .leaf)) (.seq (.draw .no (.one 0 .stable (.one 1 .stable (.one 2 .stable (.one 3 .stable (.one 4 .stable (.one 5 .stable (.one 6 .stable (.one 7 .stable (.one 8 .stable .nil)))))))))) .leaf)))))
def F_ref23_Valid (c_0 c_1 : Int) (c_2_a : OA) (c_2_l c_2_c : Nat) (c_3 : Int) (w : World) (R : Value → WP) : Prop :=
 (kAlloc w #[(Iv c_0), (Iv c_1), (.slice c_2_a c_2_l c_2_c), (Iv c_3)] Ty_api_Cutter fun c t =>
 (∃ r : Bool → WP,
 (∀ (_ : Env) (aa : Bool) (f : World), r aa f →
 (bsplit aa
 (R (.bool false) f)
 ((∃ s : Int → Nat × (WP), (s (0 : Int)).2 f ∧
 (∀ (_ : Env) (e : Int) (a : World), (s e).2 a →
 (kLdS a ⟨c, 2, none⟩ fun _ j _ =>
 (bsplit (decide (e < (j : Int)))
 ((kLdS a ⟨c, 2, none⟩ fun g k _ =>
 (kIx g k e fun ad =>
 (kLdS a (ad.add (e.toNat * 1)) fun _ l _ =>
 (bsplit (decide ((l : Int) < (1 : Int)))
 (R (.bool false) a)
 ((kLdS a ⟨c, 2, none⟩ fun h m _ =>
 (kIx h m e fun ae =>
 (kLdS a (ae.add (e.toNat * 1)) fun _ n _ =>
 (bsplit (decide ((n : Int) > (2054 : Int)))
 (R (.bool false) a)
 ((kW .i64 (e + (1 : Int)) fun ab =>
 ((s ab).2 a ∧ (s ab).1 < (s e).1)))))))))))))
 ((kLdS a ⟨c, 2, none⟩ fun _ o _ =>
 (bsplit (decide ((o : Int) = (0 : Int)))
 ((kLd a ⟨c, 3, none⟩ .i64 fun u =>
 (kLet (decide (u = (0 : Int))) fun v =>
 R (.bool v) a)))
 ((kDrew a fun d =>
 (kLd d ⟨c, 3, none⟩ .i64 fun x =>
 (kLdS d ⟨c, 2, none⟩ fun i p _ =>
 (kIx i p (0 : Int) fun af =>
 (kLdS d (af.add ((0 : Int).toNat * 1)) fun _ q _ =>
 (kLet (decide (x < (q : Int))) fun y =>
 R (.bool y) d))))))))))))))))) ∧
 (kLd t ⟨c, 0, none⟩ .i64 fun an =>
 (CP N_ref23_bits #[(Iv an)] t fun ag b =>
 ∃ am : Bool, ag = .returned (.bool am) ∧
 (bsplit (!am)
 (r true b)
 ((kLd b ⟨c, 1, none⟩ .i64 fun ah =>
 (bsplit (decide (ah < (0 : Int)))
 (r true b)
 ((kLd b ⟨c, 1, none⟩ .i64 fun ai =>
 (kLd b ⟨c, 0, none⟩ .i64 fun aj =>
 (kW .u64 (aj) fun z =>
 (0 ≤ z ∧ (kW .i64 ((1 : Int) * 2 ^ (min z.toNat (IntKind.bits .i64))) fun ak =>
 (bsplit (decide (ai ≥ ak))
 (r true b)
 ((kLdS b ⟨c, 2, none⟩ fun _ ac _ =>
 (bsplit (decide ((ac : Int) > (256 : Int)))
 (r true b)
 ((kLd b ⟨c, 3, none⟩ .i64 fun al =>
 r (decide (al < (0 : Int))) b))))))))))))))))))))
theorem F_ref23_Valid_ok {R : EP} (c_0 c_1 : Int) (c_2_a : OA) (c_2_l c_2_c : Nat) (c_3 : Int) (w : World) (h : F_ref23_Valid c_0 c_1 c_2_a c_2_l c_2_c c_3 w fun v w' => R (.returned v) w') : CP N_ref23_Valid #[(.agg #[Iv c_0, Iv c_1, .slice c_2_a c_2_l c_2_c, Iv c_3])] w R :=
 calls_of (k := TTk) (h := h_ref23_Valid) (f := 29) follows_ok Tryz.func29 (Eq.mpr (by kernel_rfl) h)

end Go.Proofs.YtlgolgpellbnbaaGreat
