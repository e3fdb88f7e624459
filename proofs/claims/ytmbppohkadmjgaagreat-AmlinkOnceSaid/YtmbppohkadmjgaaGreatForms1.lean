import Derived.Test.YtmbppohkadmjgaaGreatBase
import Derived.KernelRfl
namespace Go.Proofs.YtmbppohkadmjgaaGreat
open Go.Sx Go.RowKit
set_option maxRecDepth 100000

def h_made_Light : H := (sr sl)
def F_made_Light (_ : OA) (t_l _ : Nat) (w : World) (R : Value -> WP) : Prop :=
 (kLet (decide ((t_l : Int) <= (400 : Int))) fun a =>
 R (.bool a) w)
theorem F_made_Light_ok {R : EP} (t_a : OA) (t_l t_c : Nat) (w : World) (h : F_made_Light t_a t_l t_c w fun v w' => R (.returned v) w') : CP N_made_Light #[(.slice t_a t_l t_c)] w R :=
 calls_of (k := TTk) (h := h_made_Light) (f := 8) follows_ok Tryz.func8 (Eq.mpr (by kernel_rfl) h)

def h_law22_awake : H := (sr (sr sl))
def F_law22_awake  (w : World) (R : Value -> WP) : Prop :=
 (CP N_law22_link #[] w fun u v =>
 ∃ d e f g h i : Int, u = .returned (.agg #[Iv d, Iv e, Iv f, Iv g, Iv h, Iv i]) /\
 (kAlloc v #[(.int .u8 (1 : Int)), (.int .u8 (2 : Int)), (.int .u8 (3 : Int))] Ty_uint8 fun ac x =>
 (kAlloc x #[(.slice (some ⟨ac, 0, none⟩) 3 3)] Ty_S_uint8 fun p y =>
 (kAlloc y #[(Iv (1 : Int)), (Iv (0 : Int)), (Iv (2 : Int)), (Iv (100 : Int)), (Iv (4 : Int)), (Iv (0 : Int))] Ty_api_Step fun q z =>
 (CP N_amlink_Finish #[(.agg #[Iv d, Iv e, Iv f, Iv g, Iv h, Iv i]), (.slice (some ⟨p, 0, none⟩) 1 1), (.slice (some ⟨q, 0, none⟩) 3 3), (Iv (10 : Int))] z fun l a =>
 ∃ c : OA, ∃ b n : Nat, ∃ ab : Bool, ∃ m : Int, l = .returned (.tuple #[(.slice c b n), (.bool ab), (Iv m)]) /\
 (bsplit (decide (m = (0 : Int)))
 ((bsplit ab
 ((bsplit (decide ((b : Int) = (1 : Int)))
 ((kIx c b (0 : Int) fun r =>
 (kLdS a (r.add ((0 : Int).toNat * 1)) fun _ o _ =>
 (bsplit (decide ((o : Int) = (3 : Int)))
 ((kIx c b (0 : Int) fun s =>
 (kLdS a (s.add ((0 : Int).toNat * 1)) fun j k _ =>
 (kIx j k (2 : Int) fun t =>
 (kLd a (t.add ((2 : Int).toNat * 1)) .u8 fun ad =>
 (kLet (decide (ad = (3 : Int))) fun aa =>
 R (.bool aa) a))))))
 (R (.bool false) a)))))
 (R (.bool false) a)))
 (R (.bool false) a)))
 (R (.bool false) a)))))))
theorem F_law22_awake_ok {R : EP}  (w : World) (h : F_law22_awake  w fun v w' => R (.returned v) w') : CP N_law22_awake #[] w R :=
 calls_of (k := TTk) (h := h_law22_awake) (f := 9) follows_ok Tryz.func9 (Eq.mpr (by kernel_rfl) h)

def h_made_Roll : H := (sr sl)
def F_made_Roll (t_a : OA) (t_l t_c : Nat) (w : World) (R : Value -> WP) : Prop :=
 (kAlloc w #[(.slice t_a t_l t_c), (Iv (0 : Int))] Ty_radiolinkmade_Dice fun b a =>
 R (.pointer (some ⟨b, 0, none⟩)) a)
theorem F_made_Roll_ok {R : EP} (t_a : OA) (t_l t_c : Nat) (w : World) (h : F_made_Roll t_a t_l t_c w fun v w' => R (.returned v) w') : CP N_made_Roll #[(.slice t_a t_l t_c)] w R :=
 calls_of (k := TTk) (h := h_made_Roll) (f := 10) follows_ok Tryz.func10 (Eq.mpr (by kernel_rfl) h)

def h_law22_numbered : H := (sr (sr (.seq (sr (.block (.loop [(5, .p .slice), (6, .p (.int .i64))] ([5, 6] ++ rg 11 13) (.seq (sr (.cond .leaf .leaf)) (.seq (.block .reg) .reg))))) sl)))
def F_law22_numbered (d_b d_o : Nat) (most : Int) (w : World) (R : Value -> WP) : Prop :=
 (kW .i64 (most + (1 : Int)) fun af =>
 (CP N_made_Dice_Next #[(.pointer (some ⟨d_b, d_o, none⟩)), (Iv af)] w fun v x =>
 ∃ ad : Int, v = .returned (Iv ad) /\
 (∃ n : OA -> Nat -> Nat -> Int -> Nat × (WP), (n none 0 0 ad).2 x /\
 (∀ (_ : Env) (b : OA) (a : Nat) (c : Nat) (u : Int) (m : World), (n b a c u).2 m ->
 (bsplit (decide (u > (0 : Int)))
 ((CP N_ref01_Put #[(.slice none 0 0), (Iv (2 : Int)), (Iv (a : Int))] m fun o y =>
 ∃ j : OA, ∃ l k : Nat, o = .returned (.slice j l k) /\
 (CP N_made_Dice_Bytes #[(.pointer (some ⟨d_b, d_o, none⟩)), (Iv (8 : Int))] y fun p z =>
 ∃ d : OA, ∃ f e : Nat, p = .returned (.slice d f e) /\
 (AppP Tryz.prog #[Ty_S_uint8, Ty_S_uint8] Ty_S_uint8 #[(.slice j l k), (.slice d f e)] z fun r t s aa =>
 (kAlloc aa #[(.slice r t s)] Ty_S_uint8 fun ae ab =>
 (AppP Tryz.prog #[Ty_S_S_uint8, Ty_S_S_uint8] Ty_S_S_uint8 #[(.slice b a c), (.slice (some ⟨ae, 0, none⟩) 1 1)] ab fun g i h ac =>
 (kW .i64 (u - (1 : Int)) fun q =>
 ((n g i h q).2 ac /\ (n g i h q).1 < (n b a c u).1))))))))
 (R (.slice b a c) m))))))
theorem F_law22_numbered_ok {R : EP} (d_b d_o : Nat) (most : Int) (w : World) (h : F_law22_numbered d_b d_o most w fun v w' => R (.returned v) w') : CP N_law22_numbered #[(.pointer (some ⟨d_b, d_o, none⟩)), (Iv most)] w R :=
 calls_of (k := TTk) (h := h_law22_numbered) (f := 11) follows_ok Tryz.func11 (Eq.mpr (by kernel_rfl) h)

def h_made_Dice_Link : H := (sr sl)
def F_made_Dice_Link (d_b d_o : Nat) (w : World) (R : Value -> WP) : Prop :=
 (kAlloc w #[Iv (0 : Int), Iv (0 : Int), Iv (0 : Int), Iv (0 : Int), Iv (0 : Int), Iv (0 : Int)] Ty_api_Link fun ad s =>
 (CP N_made_Dice_Bits #[(.pointer (some ⟨d_b, d_o, none⟩))] s fun r t =>
 ∃ ae : Int, r = .returned (Iv ae) /\
 (CP N_made_Dice_Next #[(.pointer (some ⟨d_b, d_o, none⟩)), (Iv (6 : Int))] t fun g u =>
 ∃ l : Int, g = .returned (Iv l) /\
 (kW .i64 ((1 : Int) + l) fun af =>
 (CP N_made_Dice_Next #[(.pointer (some ⟨d_b, d_o, none⟩)), (Iv (6 : Int))] u fun h v =>
 ∃ m : Int, h = .returned (Iv m) /\
 (kW .i64 ((1 : Int) + m) fun aa =>
 (CP N_made_Dice_Next #[(.pointer (some ⟨d_b, d_o, none⟩)), (Iv (5 : Int))] v fun i x =>
 ∃ n : Int, i = .returned (Iv n) /\
 (kW .i64 ((1 : Int) + n) fun ab =>
 (CP N_made_Dice_Next #[(.pointer (some ⟨d_b, d_o, none⟩)), (Iv (3 : Int))] x fun j y =>
 ∃ o : Int, j = .returned (Iv o) /\
 (CP N_made_Dice_Next #[(.pointer (some ⟨d_b, d_o, none⟩)), (Iv (6 : Int))] y fun k z =>
 ∃ p : Int, k = .returned (Iv p) /\
 (kW .i64 ((1 : Int) + p) fun ac =>
 (sxStore z ⟨ad, 0, none⟩ 0 [(Iv ae), (Iv af), (Iv aa), (Iv ab), (Iv o), (Iv ac)] fun q =>
 (∃ a b c d e f : Int, cellsAt q ⟨ad, 0, none⟩ 0 [(Iv a), (Iv b), (Iv c), (Iv d), (Iv e), (Iv f)] /\
 R (.agg #[Iv a, Iv b, Iv c, Iv d, Iv e, Iv f]) q)))))))))))))
theorem F_made_Dice_Link_ok {R : EP} (d_b d_o : Nat) (w : World) (h : F_made_Dice_Link d_b d_o w fun v w' => R (.returned v) w') : CP N_made_Dice_Link #[(.pointer (some ⟨d_b, d_o, none⟩))] w R :=
 calls_of (k := TTk) (h := h_made_Dice_Link) (f := 12) follows_ok Tryz.func12 (Eq.mpr (by kernel_rfl) h)

def h_amlink_Finish : H := (sr (sr (.cut [] ([8, 9, 10] ++ rg 20 11) (.block (sr (.cond sl sc))) (.seq (.block (.loopG [] (rg 31 8) (.seq (sr (.cond .leaf .leaf)) (.block .reg)))) (.seq (.block (.loopG [] (rg 39 8) (.seq (sr (.cond .leaf .leaf)) (.block .reg)))) (.seq (sr (.block (.loop [(48, .p (.int .i64))] (rg 48 5) (sr (.seq (.cond .leaf .leaf) (.seq (.block .reg) .reg)))))) (.seq (.draw .no (so 0 13 .nil)) .leaf)))))))
def F_amlink_Finish (l_0 l_1 l_2 l_3 l_4 l_5 : Int) (units_a : OA) (units_l units_c : Nat) (steps_a : OA) (steps_l steps_c : Nat) (rounds : Int) (w : World) (R : Value -> WP) : Prop :=
 (kAlloc w #[(Iv l_0), (Iv l_1), (Iv l_2), (Iv l_3), (Iv l_4), (Iv l_5)] Ty_api_Link fun aq z =>
 (∃ h i j k l m : Int, cellsAt z ⟨aq, 0, none⟩ 0 [(Iv h), (Iv i), (Iv j), (Iv k), (Iv l), (Iv m)] /\
 (CP N_amlink_begin #[(.agg #[Iv h, Iv i, Iv j, Iv k, Iv l, Iv m]), (.slice units_a units_l units_c), (.slice steps_a steps_l steps_c)] z fun ae c =>
 ∃ g : OA, ∃ o : Int, ae = .returned (.tuple #[(.pointer g), (Iv o)]) /\
 (∃ ao : WP,
 (∀ (_ : Env)  (aa : World), ao aa ->
 (∃ ad : Nat -> WP, (∃ m' : Nat, ad m' aa) /\
 (∀ (_ : Env)  (ap : Nat) (d : World), ad ap d ->
 (kNil g fun aj =>
 (kLdS d (aj.add 28) fun _ ac _ =>
 (bsplit (decide ((ac : Int) > (0 : Int)))
 ((CP N_amlink_run_deliver #[(.pointer g), (.bool false)] d fun u af =>
 u = .returned (.tuple #[]) /\
 (∃ m' : Nat, m' < ap /\ ad m' af)))
 ((∃ n : Nat -> WP, (∃ m' : Nat, n m' d) /\
 (∀ (_ : Env)  (y : Nat) (e : World), n y e ->
 (kNil g fun ak =>
 (kLdS e (ak.add 29) fun _ s _ =>
 (bsplit (decide ((s : Int) > (0 : Int)))
 ((CP N_amlink_run_answer #[(.pointer g), (.bool false)] e fun v ag =>
 v = .returned (.tuple #[]) /\
 (∃ m' : Nat, m' < y /\ n m' ag)))
 ((∃ a : Int -> Nat × (WP), (a (0 : Int)).2 e /\
 (∀ (_ : Env) (f : Int) (p : World), (a f).2 p ->
 (bsplit (decide (f < rounds))
 ((CP N_amlink_run_round #[(.pointer g)] p fun x ah =>
 x = .returned (.tuple #[]) /\
 (kW .i64 (f + (1 : Int)) fun ab =>
 ((a ab).2 ah /\ (a ab).1 < (a f).1))))
 ((kDrew p fun b =>
 (kNil g fun al =>
 (kLdS b (al.add 30) fun q t r =>
 (kNil g fun am =>
 (kLdB b (am.add 12) fun an =>
 R (.tuple #[(.slice q t r), (.bool (!an)), (Iv (0 : Int))]) b)))))))))))))))))))))) /\
 (kLet (!decide (o = (0 : Int))) fun ar =>
 (bsplit ar
 (R (.tuple #[(.slice none 0 0), (.bool false), (Iv o)]) c)
 ((bsplit (decide (rounds < (0 : Int)))
 (R (.tuple #[(.slice none 0 0), (.bool false), (Iv (3 : Int))]) c)
 ((kLet (decide (rounds > (400 : Int))) fun ai =>
 (bsplit ai
 (R (.tuple #[(.slice none 0 0), (.bool false), (Iv (3 : Int))]) c)
 (ao c))))))))))))
theorem F_amlink_Finish_ok {R : EP} (l_0 l_1 l_2 l_3 l_4 l_5 : Int) (units_a : OA) (units_l units_c : Nat) (steps_a : OA) (steps_l steps_c : Nat) (rounds : Int) (w : World) (h : F_amlink_Finish l_0 l_1 l_2 l_3 l_4 l_5 units_a units_l units_c steps_a steps_l steps_c rounds w fun v w' => R (.returned v) w') : CP N_amlink_Finish #[(.agg #[Iv l_0, Iv l_1, Iv l_2, Iv l_3, Iv l_4, Iv l_5]), (.slice units_a units_l units_c), (.slice steps_a steps_l steps_c), (Iv rounds)] w R :=
 calls_of (k := TTk) (h := h_amlink_Finish) (f := 13) follows_ok Tryz.func13 (Eq.mpr (by kernel_rfl) h)

def h_made_Dice_LinkSteps : H := (sr (sr (.seq (sr (.block (.loop [(5, .p .slice), (6, .p (.int .i64))] ([5, 6, 7, 8] ++ rg 13 26) (.seq (sr (.cond .leaf .leaf)) (.seq (.block (sr (sr (.cut [(8, .p (.int .i64))] ([8] ++ rg 22 11) (sr (.cond (sr (sr (.cond .reg .leaf))) .leaf)) .reg)))) .reg))))) sl)))
def F_made_Dice_LinkSteps (d_b d_o : Nat) (most : Int) (w : World) (R : Value -> WP) : Prop :=
 (kW .i64 (most + (1 : Int)) fun ap =>
 (CP N_made_Dice_Next #[(.pointer (some ⟨d_b, d_o, none⟩)), (Iv ap)] w fun ag ah =>
 ∃ an : Int, ag = .returned (Iv an) /\
 (∃ m : OA -> Nat -> Nat -> Int -> Nat × (WP), (m none 0 0 an).2 ah /\
 (∀ (_ : Env) (a : OA) (c : Nat) (b : Nat) (ad : Int) (j : World), (m a c b ad).2 j ->
 (bsplit (decide (ad > (0 : Int)))
 ((kAlloc j #[(Iv (1 : Int)), (Iv (2 : Int)), (Iv (3 : Int)), (Iv (2 : Int)), (Iv (3 : Int)), (Iv (7 : Int)), (Iv (8 : Int)), (Iv (11 : Int)), (Iv (4 : Int)), (Iv (5 : Int)), (Iv (10 : Int)), (Iv (9 : Int)), (Iv (1 : Int))] Ty_int fun ao ai =>
 (CP N_made_Dice_Next #[(.pointer (some ⟨d_b, d_o, none⟩)), (Iv (13 : Int))] ai fun n d =>
 ∃ i : Int, n = .returned (Iv i) /\
 (kIx (some ⟨ao, 0, none⟩) 13 i fun ae =>
 (kLd d (ae.add (i.toNat * 1)) .i64 fun k =>
 (∃ l : Int -> WP,
 (∀ (_ : Env) (e : Int) (ab : World), l e ab ->
 (kAlloc ab #[(Iv k), (Iv e)] Ty_api_Step fun af x =>
 (AppP Tryz.prog #[Ty_S_api_Step, Ty_S_api_Step] Ty_S_api_Step #[(.slice a c b), (.slice (some ⟨af, 0, none⟩) 1 1)] x fun f h g y =>
 (kW .i64 (ad - (1 : Int)) fun ac =>
 ((m f h g ac).2 y /\ (m f h g ac).1 < (m a c b ad).1))))) /\
 (bsplit (decide (k = (2 : Int)))
 ((CP N_made_Dice_Next #[(.pointer (some ⟨d_b, d_o, none⟩)), (Iv (14 : Int))] d fun o aj =>
 ∃ s : Int, o = .returned (Iv s) /\
 (kW .i64 ((3 : Int) + s) fun al =>
 (CP N_made_Dice_One #[(.pointer (some ⟨d_b, d_o, none⟩)), (Iv (3 : Int))] aj fun p z =>
 ∃ t : Bool, p = .returned (.bool t) /\
 (bsplit t
 (l (100 : Int) z)
 (l al z))))))
 ((bsplit (decide (k = (7 : Int)))
 ((CP N_made_Dice_Next #[(.pointer (some ⟨d_b, d_o, none⟩)), (Iv (14 : Int))] d fun q ak =>
 ∃ u : Int, q = .returned (Iv u) /\
 (kW .i64 ((3 : Int) + u) fun am =>
 (CP N_made_Dice_One #[(.pointer (some ⟨d_b, d_o, none⟩)), (Iv (3 : Int))] ak fun r aa =>
 ∃ v : Bool, r = .returned (.bool v) /\
 (bsplit v
 (l (100 : Int) aa)
 (l am aa))))))
 (l (0 : Int) d))))))))))
 (R (.slice a c b) j))))))
theorem F_made_Dice_LinkSteps_ok {R : EP} (d_b d_o : Nat) (most : Int) (w : World) (h : F_made_Dice_LinkSteps d_b d_o most w fun v w' => R (.returned v) w') : CP N_made_Dice_LinkSteps #[(.pointer (some ⟨d_b, d_o, none⟩)), (Iv most)] w R :=
 calls_of (k := TTk) (h := h_made_Dice_LinkSteps) (f := 14) follows_ok Tryz.func14 (Eq.mpr (by kernel_rfl) h)

def h_ref01_Get : H := (sr (sr (.seq (sr (.block (.loop [(7, .p (.int .i64)), (8, .p (.int .i64))] (rg 7 17) (.seq (sr (.cond .leaf .leaf)) (.seq (.block .reg) .reg))))) sl)))
def F_ref01_Get (b_a : OA) (b_l _ : Nat) (at1 bytes : Int) (w : World) (R : Value -> WP) : Prop :=
 (∃ b : Int -> Int -> Nat × (WP), (b (0 : Int) (0 : Int)).2 w /\
 (∀ (_ : Env) (g : Int) (c : Int) (a : World), (b g c).2 a ->
 (bsplit (decide (c < bytes))
 ((kW .i64 ((256 : Int) * g) fun k =>
 (kW .i64 (at1 + c) fun d =>
 (kIx b_a b_l d fun j =>
 (kLd a (j.add (d.toNat * 1)) .u8 fun h =>
 (kW .i64 (h) fun i =>
 (kW .i64 (k + i) fun e =>
 (kW .i64 (c + (1 : Int)) fun f =>
 ((b e f).2 a /\ (b e f).1 < (b g c).1)))))))))
 (R (Iv g) a))))
theorem F_ref01_Get_ok {R : EP} (b_a : OA) (b_l b_c : Nat) (at1 bytes : Int) (w : World) (h : F_ref01_Get b_a b_l b_c at1 bytes w fun v w' => R (.returned v) w') : CP N_ref01_Get #[(.slice b_a b_l b_c), (Iv at1), (Iv bytes)] w R :=
 calls_of (k := TTk) (h := h_ref01_Get) (f := 15) follows_ok Tryz.func15 (Eq.mpr (by kernel_rfl) h)

def h_ref01_Same : H := (sr sl)
def F_ref01_Same (a_a : OA) (a_l a_c : Nat) (b_a : OA) (b_l b_c : Nat) (w : World) (R : Value -> WP) : Prop :=
 (ConvS Tryz.prog Ty_S_uint8 Ty_string (.slice a_a a_l a_c) w fun b =>
 (ConvS Tryz.prog Ty_S_uint8 Ty_string (.slice b_a b_l b_c) w fun a =>
 R (.bool (b == a)) w))
theorem F_ref01_Same_ok {R : EP} (a_a : OA) (a_l a_c : Nat) (b_a : OA) (b_l b_c : Nat) (w : World) (h : F_ref01_Same a_a a_l a_c b_a b_l b_c w fun v w' => R (.returned v) w') : CP N_ref01_Same #[(.slice a_a a_l a_c), (.slice b_a b_l b_c)] w R :=
 calls_of (k := TTk) (h := h_ref01_Same) (f := 16) follows_ok Tryz.func16 (Eq.mpr (by kernel_rfl) h)

def h_amlink_Run : H := (sr (sr (.seq sc (.seq (.draw .blk (po 0 8 (so 8 4 (po 12 1 (ko 13 2 (so 15 1 .nil)))))) .leaf))))
def F_amlink_Run (l_0 l_1 l_2 l_3 l_4 l_5 : Int) (units_a : OA) (units_l units_c : Nat) (steps_a : OA) (steps_l steps_c : Nat) (w : World) (R : Value -> WP) : Prop :=
 (kAlloc w #[(Iv l_0), (Iv l_1), (Iv l_2), (Iv l_3), (Iv l_4), (Iv l_5)] Ty_api_Link fun cz cv =>
 (kAlloc cv #[Iv (0 : Int), Iv (0 : Int), Iv (0 : Int), Iv (0 : Int), Iv (0 : Int), Iv (0 : Int), Iv (0 : Int), Iv (0 : Int), .slice none 0 0, Iv (0 : Int), Iv (0 : Int), Iv (0 : Int), .bool false] Ty_api_Sender fun bv cw =>
 (kAlloc cw #[Iv (0 : Int), Iv (0 : Int), Iv (0 : Int), Iv (0 : Int), Iv (0 : Int), Iv (0 : Int), Iv (0 : Int), Iv (0 : Int), Iv (0 : Int), Iv (0 : Int), Iv (0 : Int), Iv (0 : Int), .bool false, .slice none 0 0] Ty_api_Receiver fun bw cl =>
 (∃ b9 ca cb cc cd ce : Int, cellsAt cl ⟨cz, 0, none⟩ 0 [(Iv b9), (Iv ca), (Iv cb), (Iv cc), (Iv cd), (Iv ce)] /\
 (CP N_amlink_begin #[(.agg #[Iv b9, Iv ca, Iv cb, Iv cc, Iv cd, Iv ce]), (.slice units_a units_l units_c), (.slice steps_a steps_l steps_c)] cl fun cu cm =>
 ∃ cs : OA, ∃ cj : Int, cu = .returned (.tuple #[(.pointer cs), (Iv cj)]) /\
 (bsplit (!decide (cj = (0 : Int)))
 ((sxStore cm ⟨bv, 0, none⟩ 0 [(Iv (0 : Int)), (Iv (0 : Int)), (Iv (0 : Int)), (Iv (0 : Int)), (Iv (0 : Int)), (Iv (0 : Int)), (Iv (0 : Int)), (Iv (0 : Int)), (.slice none 0 0), (Iv (0 : Int)), (Iv (0 : Int)), (Iv (0 : Int)), (.bool false)] fun cx =>
 (sxStore cx ⟨bw, 0, none⟩ 0 [(Iv (0 : Int)), (Iv (0 : Int)), (Iv (0 : Int)), (Iv (0 : Int)), (Iv (0 : Int)), (Iv (0 : Int)), (Iv (0 : Int)), (Iv (0 : Int)), (Iv (0 : Int)), (Iv (0 : Int)), (Iv (0 : Int)), (Iv (0 : Int)), (.bool false), (.slice none 0 0)] fun ck =>
 (∃ bz b0 b1 b2 b3 b4 b5 b6 : Int, ∃ v : OA, ∃ y x : Nat, ∃ b8 ak al : Int, ∃ am : Bool, cellsAt ck ⟨bv, 0, none⟩ 0 [(Iv bz), (Iv b0), (Iv b1), (Iv b2), (Iv b3), (Iv b4), (Iv b5), (Iv b6), (.slice v y x), (Iv b8), (Iv ak), (Iv al), (.bool am)] /\
 (∃ ah an aq av ay a1 a4 a7 b7 bb m p : Int, ∃ s : Bool, ∃ d : OA, ∃ f e : Nat, cellsAt ck ⟨bw, 0, none⟩ 0 [(Iv ah), (Iv an), (Iv aq), (Iv av), (Iv ay), (Iv a1), (Iv a4), (Iv a7), (Iv b7), (Iv bb), (Iv m), (Iv p), (.bool s), (.slice d f e)] /\
 R (.tuple #[(.slice none 0 0), (.agg #[Iv bz, Iv b0, Iv b1, Iv b2, Iv b3, Iv b4, Iv b5, Iv b6, .slice v y x, Iv b8, Iv ak, Iv al, .bool am]), (.agg #[Iv ah, Iv an, Iv aq, Iv av, Iv ay, Iv a1, Iv a4, Iv a7, Iv b7, Iv bb, Iv m, Iv p, .bool s, .slice d f e]), (Iv cj)]) ck)))))
 ((kDrew cm fun ag =>
 (∃ ct : Nat -> Prop,
 (kNil cs fun c0 =>
 (kLdS ag (c0.add 30) fun cp cr cq =>
 (kNil cs fun cy =>
 (∃ be bh bk bm bo bq cf cg : Int, ∃ ad : OA, ∃ af ae : Nat, ∃ ci bg aa : Int, ∃ bi : Bool, cellsAt ag cy 0 [(Iv be), (Iv bh), (Iv bk), (Iv bm), (Iv bo), (Iv bq), (Iv cf), (Iv cg), (.slice ad af ae), (Iv ci), (Iv bg), (Iv aa), (.bool bi)] /\
 (kNil cs fun co =>
 (ct (co.add 13).block /\
 (∃ bf bj bl bn bp br bs bt ch bu z ab : Int, ∃ ac : Bool, ∃ j : OA, ∃ l k : Nat, cellsAt ag (co.add 13) 0 [(Iv bf), (Iv bj), (Iv bl), (Iv bn), (Iv bp), (Iv br), (Iv bs), (Iv bt), (Iv ch), (Iv bu), (Iv z), (Iv ab), (.bool ac), (.slice j l k)] /\
 (sxStore ag ⟨bv, 0, none⟩ 0 [(Iv be), (Iv bh), (Iv bk), (Iv bm), (Iv bo), (Iv bq), (Iv cf), (Iv cg), (.slice ad af ae), (Iv ci), (Iv bg), (Iv aa), (.bool bi)] fun cn =>
 (KeepsB ct ag cn /\ (sxStore cn ⟨bw, 0, none⟩ 0 [(Iv bf), (Iv bj), (Iv bl), (Iv bn), (Iv bp), (Iv br), (Iv bs), (Iv bt), (Iv ch), (Iv bu), (Iv z), (Iv ab), (.bool ac), (.slice j l k)] fun bx =>
 (KeepsB ct ag bx /\ (∃ ai ao ar aw az a2 a5 a8 : Int, ∃ g : OA, ∃ i h : Nat, ∃ bc n q : Int, ∃ t : Bool, cellsAt bx ⟨bv, 0, none⟩ 0 [(Iv ai), (Iv ao), (Iv ar), (Iv aw), (Iv az), (Iv a2), (Iv a5), (Iv a8), (.slice g i h), (Iv bc), (Iv n), (Iv q), (.bool t)] /\
 (∃ aj ap au ax a0 a3 a6 a9 ba bd o r : Int, ∃ u : Bool, ∃ a : OA, ∃ c b : Nat, cellsAt bx ⟨bw, 0, none⟩ 0 [(Iv aj), (Iv ap), (Iv au), (Iv ax), (Iv a0), (Iv a3), (Iv a6), (Iv a9), (Iv ba), (Iv bd), (Iv o), (Iv r), (.bool u), (.slice a c b)] /\
 R (.tuple #[(.slice cp cr cq), (.agg #[Iv ai, Iv ao, Iv ar, Iv aw, Iv az, Iv a2, Iv a5, Iv a8, .slice g i h, Iv bc, Iv n, Iv q, .bool t]), (.agg #[Iv aj, Iv ap, Iv au, Iv ax, Iv a0, Iv a3, Iv a6, Iv a9, Iv ba, Iv bd, Iv o, Iv r, .bool u, .slice a c b]), (Iv (0 : Int))]) bx))))))))))))))))))))))
theorem F_amlink_Run_ok {R : EP} (l_0 l_1 l_2 l_3 l_4 l_5 : Int) (units_a : OA) (units_l units_c : Nat) (steps_a : OA) (steps_l steps_c : Nat) (w : World) (h : F_amlink_Run l_0 l_1 l_2 l_3 l_4 l_5 units_a units_l units_c steps_a steps_l steps_c w fun v w' => R (.returned v) w') : CP N_amlink_Run #[(.agg #[Iv l_0, Iv l_1, Iv l_2, Iv l_3, Iv l_4, Iv l_5]), (.slice units_a units_l units_c), (.slice steps_a steps_l steps_c)] w R :=
 calls_of (k := TTk) (h := h_amlink_Run) (f := 18) follows_ok Tryz.func18 (Eq.mpr (by kernel_rfl) h)

def h_made_Dice_One : H := (sr sl)
def F_made_Dice_One (d_b d_o : Nat) (n : Int) (w : World) (R : Value -> WP) : Prop :=
 (CP N_made_Dice_Next #[(.pointer (some ⟨d_b, d_o, none⟩)), (Iv n)] w fun a b =>
 ∃ d : Int, a = .returned (Iv d) /\
 (kW .i64 (n - (1 : Int)) fun e =>
 (kLet (decide (d = e)) fun c =>
 R (.bool c) b)))
theorem F_made_Dice_One_ok {R : EP} (d_b d_o : Nat) (n : Int) (w : World) (h : F_made_Dice_One d_b d_o n w fun v w' => R (.returned v) w') : CP N_made_Dice_One #[(.pointer (some ⟨d_b, d_o, none⟩)), (Iv n)] w R :=
 calls_of (k := TTk) (h := h_made_Dice_One) (f := 23) follows_ok Tryz.func23 (Eq.mpr (by kernel_rfl) h)

def h_ref20_Place : H := (sr sl)
def F_ref20_Place (bits first sn : Int) (w : World) (R : Value -> WP) : Prop :=
 (CP N_ref02_Distance #[(Iv bits), (Iv first), (Iv sn)] w fun a b =>
 ∃ c : Int, a = .returned (Iv c) /\
 R (Iv c) b)
theorem F_ref20_Place_ok {R : EP} (bits first sn : Int) (w : World) (h : F_ref20_Place bits first sn w fun v w' => R (.returned v) w') : CP N_ref20_Place #[(Iv bits), (Iv first), (Iv sn)] w R :=
 calls_of (k := TTk) (h := h_ref20_Place) (f := 26) follows_ok Tryz.func26 (Eq.mpr (by kernel_rfl) h)

def h_law22_link : H := (sr sl)
def F_law22_link  (w : World) (R : Value -> WP) : Prop :=
 (kAlloc w #[Iv (0 : Int), Iv (0 : Int), Iv (0 : Int), Iv (0 : Int), Iv (0 : Int), Iv (0 : Int)] Ty_api_Link fun i h =>
 (sxStore h ⟨i, 0, none⟩ 0 [(Iv (5 : Int)), (Iv (4 : Int)), (Iv (3 : Int)), (Iv (3 : Int)), (Iv (0 : Int)), (Iv (30 : Int))] fun g =>
 (∃ a b c d e f : Int, cellsAt g ⟨i, 0, none⟩ 0 [(Iv a), (Iv b), (Iv c), (Iv d), (Iv e), (Iv f)] /\
 R (.agg #[Iv a, Iv b, Iv c, Iv d, Iv e, Iv f]) g)))
theorem F_law22_link_ok {R : EP}  (w : World) (h : F_law22_link  w fun v w' => R (.returned v) w') : CP N_law22_link #[] w R :=
 calls_of (k := TTk) (h := h_law22_link) (f := 27) follows_ok Tryz.func27 (Eq.mpr (by kernel_rfl) h)

def h_made_Dice_Next : H := (sr (.seq (.seq (.draw .no (so 0 10 .nil)) (.cond sl .leaf)) (sr (.seq (.draw .blk (po 0 12 (ko 12 1 (so 13 1 .nil)))) .leaf))))
def F_made_Dice_Next (d_b d_o : Nat) (n : Int) (w : World) (R : Value -> WP) : Prop :=
 (kDrew w fun a =>
 (kLd a ⟨d_b, d_o + 1, none⟩ .i64 fun r =>
 (kLdS a ⟨d_b, d_o, none⟩ fun _ g _ =>
 (bsplit (decide (r >= (g : Int)))
 (R (Iv (0 : Int)) a)
 ((kLd a ⟨d_b, d_o + 1, none⟩ .i64 fun j =>
 (kW .i64 (j + (1 : Int)) fun k =>
 (kSet a ⟨d_b, d_o + 1, none⟩ (Iv k) fun i =>
 (kDrew i fun b =>
 (∃ p : Nat -> Prop,
 (kLdS b ⟨d_b, d_o, none⟩ fun c d _ =>
 (kLd b ⟨d_b, d_o + 1, none⟩ .i64 fun l =>
 (kW .i64 (l - (1 : Int)) fun f =>
 (kIx c d f fun q =>
 (kLd b (q.add (f.toNat * 1)) .i64 fun m =>
 (CP N_made_Mod #[(Iv m), (Iv n)] b fun h e =>
 ∃ o : Int, h = .returned (Iv o) /\
 (KeepsB p b e /\ R (Iv o) e)))))))))))))))))
theorem F_made_Dice_Next_ok {R : EP} (d_b d_o : Nat) (n : Int) (w : World) (h : F_made_Dice_Next d_b d_o n w fun v w' => R (.returned v) w') : CP N_made_Dice_Next #[(.pointer (some ⟨d_b, d_o, none⟩)), (Iv n)] w R :=
 calls_of (k := TTk) (h := h_made_Dice_Next) (f := 28) follows_ok Tryz.func28 (Eq.mpr (by kernel_rfl) h)

def h_ref01_Put : H := (sr (.seq (sr (.block (.loop [(0, .p .slice), (7, .p (.int .i64))] ([0, 7] ++ rg 10 13) (.seq (sr (.cond .leaf .leaf)) (.seq (.block .reg) .reg))))) sl))
def F_ref01_Put (b_a : OA) (b_l b_c : Nat) (bytes v : Int) (w : World) (R : Value -> WP) : Prop :=
 (kW .i64 (bytes - (1 : Int)) fun r =>
 (∃ h : OA -> Nat -> Nat -> Int -> Nat × (WP), (h b_a b_l b_c r).2 w /\
 (∀ (_ : Env) (a : OA) (c : Nat) (b : Nat) (i : Int) (g : World), (h a c b i).2 g ->
 (bsplit (decide (i >= (0 : Int)))
 ((kW .i64 ((8 : Int) * i) fun n =>
 (kW .u64 (n) fun j =>
 (0 <= j /\ (kLet (Int.fdiv v (2 ^ (min j.toNat (IntKind.bits .i64)))) fun o =>
 (kW .u8 (o) fun p =>
 (kAlloc g #[(.int .u8 p)] Ty_uint8 fun q l =>
 (AppP Tryz.prog #[Ty_S_uint8, Ty_S_uint8] Ty_S_uint8 #[(.slice a c b), (.slice (some ⟨q, 0, none⟩) 1 1)] l fun d f e m =>
 (kW .i64 (i - (1 : Int)) fun k =>
 ((h d f e k).2 m /\ (h d f e k).1 < (h a c b i).1))))))))))
 (R (.slice a c b) g)))))
theorem F_ref01_Put_ok {R : EP} (b_a : OA) (b_l b_c : Nat) (bytes v : Int) (w : World) (h : F_ref01_Put b_a b_l b_c bytes v w fun v w' => R (.returned v) w') : CP N_ref01_Put #[(.slice b_a b_l b_c), (Iv bytes), (Iv v)] w R :=
 calls_of (k := TTk) (h := h_ref01_Put) (f := 29) follows_ok Tryz.func29 (Eq.mpr (by kernel_rfl) h)

def h_made_Dice_Bytes : H := (sr (sr (.seq (sr (.block (.loop [(5, .p .slice), (6, .p (.int .i64))] ([5, 6] ++ rg 11 10) (.seq (sr (.cond .leaf .leaf)) (.seq (.block .reg) .reg))))) sl)))
def F_made_Dice_Bytes (d_b d_o : Nat) (most : Int) (w : World) (R : Value -> WP) : Prop :=
 (kW .i64 (most + (1 : Int)) fun u =>
 (CP N_made_Dice_Next #[(.pointer (some ⟨d_b, d_o, none⟩)), (Iv u)] w fun m n =>
 ∃ s : Int, m = .returned (Iv s) /\
 (∃ h : OA -> Nat -> Nat -> Int -> Nat × (WP), (h none 0 0 s).2 n /\
 (∀ (_ : Env) (a : OA) (c : Nat) (b : Nat) (l : Int) (g : World), (h a c b l).2 g ->
 (bsplit (decide (l > (0 : Int)))
 ((CP N_made_Dice_Next #[(.pointer (some ⟨d_b, d_o, none⟩)), (Iv (256 : Int))] g fun i o =>
 ∃ j : Int, i = .returned (Iv j) /\
 (kW .u8 (j) fun r =>
 (kAlloc o #[(.int .u8 r)] Ty_uint8 fun t p =>
 (AppP Tryz.prog #[Ty_S_uint8, Ty_S_uint8] Ty_S_uint8 #[(.slice a c b), (.slice (some ⟨t, 0, none⟩) 1 1)] p fun d f e q =>
 (kW .i64 (l - (1 : Int)) fun k =>
 ((h d f e k).2 q /\ (h d f e k).1 < (h a c b l).1)))))))
 (R (.slice a c b) g))))))
theorem F_made_Dice_Bytes_ok {R : EP} (d_b d_o : Nat) (most : Int) (w : World) (h : F_made_Dice_Bytes d_b d_o most w fun v w' => R (.returned v) w') : CP N_made_Dice_Bytes #[(.pointer (some ⟨d_b, d_o, none⟩)), (Iv most)] w R :=
 calls_of (k := TTk) (h := h_made_Dice_Bytes) (f := 30) follows_ok Tryz.func30 (Eq.mpr (by kernel_rfl) h)

def h_made_Dice_Bits : H := (sr sl)
def F_made_Dice_Bits (d_b d_o : Nat) (w : World) (R : Value -> WP) : Prop :=
 (kAlloc w #[(Iv (5 : Int)), (Iv (5 : Int)), (Iv (6 : Int)), (Iv (9 : Int))] Ty_int fun f e =>
 (CP N_made_Dice_Next #[(.pointer (some ⟨d_b, d_o, none⟩)), (Iv (4 : Int))] e fun c a =>
 ∃ d : Int, c = .returned (Iv d) /\
 (kIx (some ⟨f, 0, none⟩) 4 d fun b =>
 (kLd a (b.add (d.toNat * 1)) .i64 fun g =>
 R (Iv g) a))))
theorem F_made_Dice_Bits_ok {R : EP} (d_b d_o : Nat) (w : World) (h : F_made_Dice_Bits d_b d_o w fun v w' => R (.returned v) w') : CP N_made_Dice_Bits #[(.pointer (some ⟨d_b, d_o, none⟩))] w R :=
 calls_of (k := TTk) (h := h_made_Dice_Bits) (f := 31) follows_ok Tryz.func31 (Eq.mpr (by kernel_rfl) h)

def h_amlink_begin : H := (sr (sr (.seq sc (sr (.seq sc (sr (.cut [] ([6, 7] ++ rg 32 13) sc (.seq (.draw .blk (so 0 2 (po 2 1 (ko 3 3 (so 6 1 .nil))))) (sr (.seq (sr (.block (.loop [(55, .p (.int .i64))] ([15] ++ rg 55 8) (sr (.seq (.cond .leaf .leaf) (.seq (.block (sr .reg)) .reg)))))) sl))))))))))
def F_amlink_begin (l_0 l_1 l_2 l_3 l_4 l_5 : Int) (units_a : OA) (units_l units_c : Nat) (steps_a : OA) (steps_l _ : Nat) (w : World) (R : Value -> WP) : Prop :=
 (kAlloc w #[(Iv l_0), (Iv l_1), (Iv l_2), (Iv l_3), (Iv l_4), (Iv l_5)] Ty_api_Link fun cv ch =>
 (∃ bs bt bu bv bw bx : Int, cellsAt ch ⟨cv, 0, none⟩ 0 [(Iv bs), (Iv bt), (Iv bu), (Iv bv), (Iv bw), (Iv bx)] /\
 (CP N_sender_New #[(.agg #[Iv bs, Iv bt, Iv bu, Iv bv, Iv bw, Iv bx])] ch fun co cq =>
 ∃ bd be bf bg bh bi bj bk : Int, ∃ k : OA, ∃ m l : Nat, ∃ bm y z : Int, ∃ aa : Bool, ∃ cp : Int, co = .returned (.tuple #[(.agg #[Iv bd, Iv be, Iv bf, Iv bg, Iv bh, Iv bi, Iv bj, Iv bk, .slice k m l, Iv bm, Iv y, Iv z, .bool aa]), (Iv cp)]) /\
 (kAlloc cq #[Iv (0 : Int), Iv (0 : Int), Iv (0 : Int), Iv (0 : Int), Iv (0 : Int), Iv (0 : Int), Iv (0 : Int), Iv (0 : Int), .slice none 0 0, Iv (0 : Int), Iv (0 : Int), Iv (0 : Int), .bool false] Ty_api_Sender fun b3 cr =>
 (sxStore cr ⟨b3, 0, none⟩ 0 [(Iv bd), (Iv be), (Iv bf), (Iv bg), (Iv bh), (Iv bi), (Iv bj), (Iv bk), (.slice k m l), (Iv bm), (Iv y), (Iv z), (.bool aa)] fun b6 =>
 (bsplit (!decide (cp = (0 : Int)))
 (R (.tuple #[(.pointer none), (Iv cp)]) b6)
 ((∃ ak aq ax a0 a3 a6 : Int, cellsAt b6 ⟨cv, 0, none⟩ 0 [(Iv ak), (Iv aq), (Iv ax), (Iv a0), (Iv a3), (Iv a6)] /\
 (CP N_receiver_New #[(.agg #[Iv ak, Iv aq, Iv ax, Iv a0, Iv a3, Iv a6])] b6 fun cc cs =>
 ∃ x ab ac ad ae af ag ah bl ai h i : Int, ∃ j : Bool, ∃ b : OA, ∃ d c : Nat, ∃ b5 : Int, cc = .returned (.tuple #[(.agg #[Iv x, Iv ab, Iv ac, Iv ad, Iv ae, Iv af, Iv ag, Iv ah, Iv bl, Iv ai, Iv h, Iv i, .bool j, .slice b d c]), (Iv b5)]) /\
 (kAlloc cs #[Iv (0 : Int), Iv (0 : Int), Iv (0 : Int), Iv (0 : Int), Iv (0 : Int), Iv (0 : Int), Iv (0 : Int), Iv (0 : Int), Iv (0 : Int), Iv (0 : Int), Iv (0 : Int), Iv (0 : Int), .bool false, .slice none 0 0] Ty_api_Receiver fun b4 ct =>
 (sxStore ct ⟨b4, 0, none⟩ 0 [(Iv x), (Iv ab), (Iv ac), (Iv ad), (Iv ae), (Iv af), (Iv ag), (Iv ah), (Iv bl), (Iv ai), (Iv h), (Iv i), (.bool j), (.slice b d c)] fun bc =>
 (bsplit (!decide (b5 = (0 : Int)))
 (R (.tuple #[(.pointer none), (Iv b5)]) bc)
 ((∃ cu : WP,
 (∀ (_ : Env)  (cl : World), cu cl ->
 (kDrew cl fun a =>
 (∃ b9 : Nat -> Prop,
 (b9 b3 /\
 (∃ al ar ay a1 a4 a7 bz b0 : Int, ∃ t : OA, ∃ v u : Nat, ∃ b2 ap p : Int, ∃ r : Bool, cellsAt a ⟨b3, 0, none⟩ 0 [(Iv al), (Iv ar), (Iv ay), (Iv a1), (Iv a4), (Iv a7), (Iv bz), (Iv b0), (.slice t v u), (Iv b2), (Iv ap), (Iv p), (.bool r)] /\
 (b9 b4 /\
 (∃ am au az a2 a5 a8 a9 ba b1 bb o q : Int, ∃ s : Bool, ∃ e : OA, ∃ g f : Nat, cellsAt a ⟨b4, 0, none⟩ 0 [(Iv am), (Iv au), (Iv az), (Iv a2), (Iv a5), (Iv a8), (Iv a9), (Iv ba), (Iv b1), (Iv bb), (Iv o), (Iv q), (.bool s), (.slice e g f)] /\
 (CP N_slices_Clone_SSbyte_Sbyte #[(.slice units_a units_l units_c)] a fun ce aj =>
 ∃ bn : OA, ∃ bp bo : Nat, ce = .returned (.slice bn bp bo) /\
 (KeepsB b9 a aj /\ (KeepsB b9 a aj /\ (kAlloc aj #[(Iv al), (Iv ar), (Iv ay), (Iv a1), (Iv a4), (Iv a7), (Iv bz), (Iv b0), (.slice t v u), (Iv b2), (Iv ap), (Iv p), (.bool r), (Iv am), (Iv au), (Iv az), (Iv a2), (Iv a5), (Iv a8), (Iv a9), (Iv ba), (Iv b1), (Iv bb), (Iv o), (Iv q), (.bool s), (.slice e g f), (.slice bn bp bo), (.slice none 0 0), (.slice none 0 0), (.slice none 0 0)] Ty_amlink_run fun ca bq =>
 (KeepsB b9 a bq /\ (∃ b8 : Int -> Nat × (WP), (b8 (0 : Int)).2 bq /\
 (∀ (_ : Env) (b7 : Int) (n : World), (b8 b7).2 n ->
 (bsplit (decide (b7 < (steps_l : Int)))
 ((kIx steps_a steps_l b7 fun cn =>
 (∃ an av : Int, cellsAt n (cn.add (b7.toNat * 2)) 0 [(Iv an), (Iv av)] /\
 (kAlloc n #[Iv (0 : Int), Iv (0 : Int)] Ty_api_Step fun cb ci =>
 (sxStore ci ⟨cb, 0, none⟩ 0 [(Iv an), (Iv av)] fun br =>
 (∃ ao aw : Int, cellsAt br ⟨cb, 0, none⟩ 0 [(Iv ao), (Iv aw)] /\
 (okFn Tryz.prog N_amlink_run_step = true /\ CP N_amlink_run_step #[(.pointer (some ⟨ca, 0, none⟩)), (.agg #[Iv ao, Iv aw])] br fun cf cj =>
 cf = .returned (.tuple #[]) /\
 (kW .i64 (b7 + (1 : Int)) fun cm =>
 ((b8 cm).2 cj /\ (b8 cm).1 < (b8 b7).1)))))))))
 (R (.tuple #[(.pointer (some ⟨ca, 0, none⟩)), (Iv (0 : Int))]) n)))))))))))))))) /\
 (bsplit (decide ((steps_l : Int) > (400 : Int)))
 (R (.tuple #[(.pointer none), (Iv (2 : Int))]) bc)
 ((bsplit (decide ((units_l : Int) > (256 : Int)))
 (R (.tuple #[(.pointer none), (Iv (2 : Int))]) bc)
 ((CP N_slices_ContainsFunc_SSbyte_Sbyte #[(.slice units_a units_l units_c), (.func (.func N_amlink_begin_1) #[] #[])] bc fun cd ck =>
 ∃ cg : Bool, cd = .returned (.bool cg) /\
 (bsplit cg
 (R (.tuple #[(.pointer none), (Iv (2 : Int))]) ck)
 (cu ck)))))))))))))))))))))
theorem F_amlink_begin_ok {R : EP} (l_0 l_1 l_2 l_3 l_4 l_5 : Int) (units_a : OA) (units_l units_c : Nat) (steps_a : OA) (steps_l steps_c : Nat) (w : World) (h : F_amlink_begin l_0 l_1 l_2 l_3 l_4 l_5 units_a units_l units_c steps_a steps_l steps_c w fun v w' => R (.returned v) w') : CP N_amlink_begin #[(.agg #[Iv l_0, Iv l_1, Iv l_2, Iv l_3, Iv l_4, Iv l_5]), (.slice units_a units_l units_c), (.slice steps_a steps_l steps_c)] w R :=
 calls_of (k := TTk) (h := h_amlink_begin) (f := 32) follows_ok Tryz.func32 (Eq.mpr (by kernel_rfl) h)

def h_amlink_run_deliver : H := (sr (.seq (sr (.cond .leaf .leaf)) (sr (.cut [] (rg 29 6) (sr (.cond .reg .leaf)) (sr (.cond .reg .leaf))))))
def F_amlink_run_deliver (x_b x_o : Nat) (keep : Bool) (w : World) (R : Value -> WP) : Prop :=
 (CP N_amlink_queue_first #[(.pointer (some ⟨x_b, x_o + 28, none⟩)), (.bool keep)] w fun bi a6 =>
 ∃ ar : OA, ∃ av au : Nat, ∃ bq : Bool, bi = .returned (.tuple #[(.slice ar av au), (.bool bq)]) /\
 (bsplit (!bq)
 (R (.tuple #[]) a6)
 ((∃ aw ax ay az a0 a1 a2 a3 a4 a5 t u : Int, ∃ v : Bool, ∃ g : OA, ∃ i h : Nat, cellsAt a6 ⟨x_b, x_o + 13, none⟩ 0 [(Iv aw), (Iv ax), (Iv ay), (Iv az), (Iv a0), (Iv a1), (Iv a2), (Iv a3), (Iv a4), (Iv a5), (Iv t), (Iv u), (.bool v), (.slice g i h)] /\
 (CP N_receiver_Receive #[(.agg #[Iv aw, Iv ax, Iv ay, Iv az, Iv a0, Iv a1, Iv a2, Iv a3, Iv a4, Iv a5, Iv t, Iv u, .bool v, .slice g i h]), (.slice ar av au)] a6 fun bb bj =>
 ∃ ah ai aj ak al am an ao ap aq n o : Int, ∃ p : Bool, ∃ d : OA, ∃ f e : Nat, ∃ q : OA, ∃ j r : Nat, ∃ bc : Int, bb = .returned (.tuple #[(.agg #[Iv ah, Iv ai, Iv aj, Iv ak, Iv al, Iv am, Iv an, Iv ao, Iv ap, Iv aq, Iv n, Iv o, .bool p, .slice d f e]), (.slice q j r), (Iv bc)]) /\
 (kAlloc bj #[Iv (0 : Int), Iv (0 : Int), Iv (0 : Int), Iv (0 : Int), Iv (0 : Int), Iv (0 : Int), Iv (0 : Int), Iv (0 : Int), Iv (0 : Int), Iv (0 : Int), Iv (0 : Int), Iv (0 : Int), .bool false, .slice none 0 0] Ty_api_Receiver fun bp bk =>
 (sxStore bk ⟨bp, 0, none⟩ 0 [(Iv ah), (Iv ai), (Iv aj), (Iv ak), (Iv al), (Iv am), (Iv an), (Iv ao), (Iv ap), (Iv aq), (Iv n), (Iv o), (.bool p), (.slice d f e)] fun a7 =>
 (∃ bg : WP,
 (∀ (_ : Env)  (ag : World), bg ag ->
 (bsplit (decide ((j : Int) > (0 : Int)))
 ((kLdS ag ⟨x_b, x_o + 30, none⟩ fun bd bf be =>
 (kAlloc ag #[(.slice q j r)] Ty_S_uint8 fun bh bm =>
 (AppP Tryz.prog #[Ty_S_S_uint8, Ty_S_S_uint8] Ty_S_S_uint8 #[(.slice bd bf be), (.slice (some ⟨bh, 0, none⟩) 1 1)] bm fun a8 ba a9 bn =>
 (kSet bn ⟨x_b, x_o + 30, none⟩ (.slice a8 ba a9) fun bo =>
 R (.tuple #[]) bo)))))
 (R (.tuple #[]) ag))) /\
 (bsplit (!decide (bc = (1 : Int)))
 ((∃ s x y z aa ab ac ad ae af k l : Int, ∃ m : Bool, ∃ a : OA, ∃ c b : Nat, cellsAt a7 ⟨bp, 0, none⟩ 0 [(Iv s), (Iv x), (Iv y), (Iv z), (Iv aa), (Iv ab), (Iv ac), (Iv ad), (Iv ae), (Iv af), (Iv k), (Iv l), (.bool m), (.slice a c b)] /\
 (sxStore a7 ⟨x_b, x_o + 13, none⟩ 0 [(Iv s), (Iv x), (Iv y), (Iv z), (Iv aa), (Iv ab), (Iv ac), (Iv ad), (Iv ae), (Iv af), (Iv k), (Iv l), (.bool m), (.slice a c b)] fun bl =>
 bg bl)))
 (bg a7))))))))))
theorem F_amlink_run_deliver_ok {R : EP} (x_b x_o : Nat) (keep : Bool) (w : World) (h : F_amlink_run_deliver x_b x_o keep w fun v w' => R (.returned v) w') : CP N_amlink_run_deliver #[(.pointer (some ⟨x_b, x_o, none⟩)), (.bool keep)] w R :=
 calls_of (k := TTk) (h := h_amlink_run_deliver) (f := 33) follows_ok Tryz.func33 (Eq.mpr (by kernel_rfl) h)

def h_amlink_run_answer : H := (sr (.seq (sr (.cond .leaf .leaf)) (sr (.seq (sr (.cond .leaf .leaf)) (.seq (.draw .blk (so 0 5 (.alt 5 (so 6 3 (ko 9 2 (so 11 1 .nil))) (.alt 9 (ko 5 1 (so 6 3 (ko 10 1 (so 11 1 .nil)))) .endAlt)))) (sr (.cond .reg .leaf)))))))
def F_amlink_run_answer (x_b x_o : Nat) (keep : Bool) (w : World) (R : Value -> WP) : Prop :=
 (CP N_amlink_queue_first #[(.pointer (some ⟨x_b, x_o + 29, none⟩)), (.bool keep)] w fun cm b8 =>
 ∃ b3 : OA, ∃ b5 b4 : Nat, ∃ cq : Bool, cm = .returned (.tuple #[(.slice b3 b5 b4), (.bool cq)]) /\
 (bsplit (!cq)
 (R (.tuple #[]) b8)
 ((kLd b8 ⟨x_b, x_o, none⟩ .i64 fun cr =>
 (CP N_status_Decode #[(Iv cr), (.slice b3 b5 b4)] b8 fun cb cn =>
 ∃ bt : Int, ∃ y : OA, ∃ aa z : Nat, ∃ ce : Int, cb = .returned (.tuple #[(.agg #[Iv bt, .slice y aa z]), (Iv ce)]) /\
 (kAlloc cn #[Iv (0 : Int), .slice none 0 0] Ty_api_Status fun cl co =>
 (sxStore co ⟨cl, 0, none⟩ 0 [(Iv bt), (.slice y aa z)] fun ci =>
 (bsplit (!decide (ce = (0 : Int)))
 (R (.tuple #[]) ci)
 ((kDrew ci fun a =>
 (∃ bs : Nat -> Prop,
 (bs x_b /\
 (∃ a0 a3 a6 a9 bc bf bi bl : Int, ∃ e : OA, ∃ g f : Nat, ∃ bo r s : Int, ∃ t : Bool, cellsAt a ⟨x_b, x_o, none⟩ 0 [(Iv a0), (Iv a3), (Iv a6), (Iv a9), (Iv bc), (Iv bf), (Iv bi), (Iv bl), (.slice e g f), (Iv bo), (Iv r), (Iv s), (.bool t)] /\
 (bs cl /\
 (∃ q : Int, ∃ b : OA, ∃ d c : Nat, cellsAt a ⟨cl, 0, none⟩ 0 [(Iv q), (.slice b d c)] /\
 ((CP N_sender_Report #[(.agg #[Iv a0, Iv a3, Iv a6, Iv a9, Iv bc, Iv bf, Iv bi, Iv bl, .slice e g f, Iv bo, Iv r, Iv s, .bool t]), (.agg #[Iv q, .slice b d c])] a fun cd b6 =>
 ∃ am aq ar au av aw ax ay : Int, ∃ h : OA, ∃ j i : Nat, ∃ az u v : Int, ∃ x : Bool, ∃ cg : Int, cd = .returned (.tuple #[(.agg #[Iv am, Iv aq, Iv ar, Iv au, Iv av, Iv aw, Iv ax, Iv ay, .slice h j i, Iv az, Iv u, Iv v, .bool x]), (Iv cg)]) /\
 (KeepsB bs a b6 /\ (kAlloc b6 #[Iv (0 : Int), Iv (0 : Int), Iv (0 : Int), Iv (0 : Int), Iv (0 : Int), Iv (0 : Int), Iv (0 : Int), Iv (0 : Int), .slice none 0 0, Iv (0 : Int), Iv (0 : Int), Iv (0 : Int), .bool false] Ty_api_Sender fun ca b7 =>
 (KeepsB bs a b7 /\ (sxStore b7 ⟨ca, 0, none⟩ 0 [(Iv am), (Iv aq), (Iv ar), (Iv au), (Iv av), (Iv aw), (Iv ax), (Iv ay), (.slice h j i), (Iv az), (Iv u), (Iv v), (.bool x)] fun ae =>
 (KeepsB bs a ae /\ (bsplit (decide (cg = (0 : Int)))
 ((∃ a2 a5 a8 bb be bh bk bn : Int, ∃ l : OA, ∃ p n : Nat, ∃ bq ag ai : Int, ∃ ak : Bool, cellsAt ae ⟨ca, 0, none⟩ 0 [(Iv a2), (Iv a5), (Iv a8), (Iv bb), (Iv be), (Iv bh), (Iv bk), (Iv bn), (.slice l p n), (Iv bq), (Iv ag), (Iv ai), (.bool ak)] /\
 (sxStore ae ⟨x_b, x_o, none⟩ 0 [(Iv a2), (Iv a5), (Iv a8), (Iv bb), (Iv be), (Iv bh), (Iv bk), (Iv bn), (.slice l p n), (Iv bq), (Iv ag), (Iv ai), (.bool ak)] fun ch =>
 R (.tuple #[]) ch)))
 (R (.tuple #[]) ae)))))))) /\
 ((kAlloc a #[Iv (0 : Int), Iv (0 : Int), Iv (0 : Int), Iv (0 : Int), Iv (0 : Int), Iv (0 : Int), Iv (0 : Int), Iv (0 : Int), .slice none 0 0, Iv (0 : Int), Iv (0 : Int), Iv (0 : Int), .bool false] Ty_api_Sender fun b9 cj =>
 (KeepsB bs a cj /\ (CP N_sender_Report #[(.agg #[Iv a0, Iv a3, Iv a6, Iv a9, Iv bc, Iv bf, Iv bi, Iv bl, .slice e g f, Iv bo, Iv r, Iv s, .bool t]), (.agg #[Iv q, .slice b d c])] cj fun cc ck =>
 ∃ al bu bv bw bx bz b0 b1 : Int, ∃ ab : OA, ∃ ad ac : Nat, ∃ b2 an ao : Int, ∃ ap : Bool, ∃ cf : Int, cc = .returned (.tuple #[(.agg #[Iv al, Iv bu, Iv bv, Iv bw, Iv bx, Iv bz, Iv b0, Iv b1, .slice ab ad ac, Iv b2, Iv an, Iv ao, .bool ap]), (Iv cf)]) /\
 (KeepsB bs a ck /\ (sxStore ck ⟨b9, 0, none⟩ 0 [(Iv al), (Iv bu), (Iv bv), (Iv bw), (Iv bx), (Iv bz), (Iv b0), (Iv b1), (.slice ab ad ac), (Iv b2), (Iv an), (Iv ao), (.bool ap)] fun br =>
 (KeepsB bs a br /\ (bsplit (decide (cf = (0 : Int)))
 ((∃ a1 a4 a7 ba bd bg bj bm : Int, ∃ k : OA, ∃ o m : Nat, ∃ bp af ah : Int, ∃ aj : Bool, cellsAt br ⟨b9, 0, none⟩ 0 [(Iv a1), (Iv a4), (Iv a7), (Iv ba), (Iv bd), (Iv bg), (Iv bj), (Iv bm), (.slice k o m), (Iv bp), (Iv af), (Iv ah), (.bool aj)] /\
 (sxStore br ⟨x_b, x_o, none⟩ 0 [(Iv a1), (Iv a4), (Iv a7), (Iv ba), (Iv bd), (Iv bg), (Iv bj), (Iv bm), (.slice k o m), (Iv bp), (Iv af), (Iv ah), (.bool aj)] fun cp =>
 R (.tuple #[]) cp)))
 (R (.tuple #[]) br)))))))) /\
 True)))))))))))))))))
theorem F_amlink_run_answer_ok {R : EP} (x_b x_o : Nat) (keep : Bool) (w : World) (h : F_amlink_run_answer x_b x_o keep w fun v w' => R (.returned v) w') : CP N_amlink_run_answer #[(.pointer (some ⟨x_b, x_o, none⟩)), (.bool keep)] w R :=
 calls_of (k := TTk) (h := h_amlink_run_answer) (f := 34) follows_ok Tryz.func34 (Eq.mpr (by kernel_rfl) h)

def h_amlink_run_round : H := (.seq (.block (.loopG [] [2, 3] (.seq (sr (.cond .leaf .leaf)) (.block .leaf)))) (.seq (.block (.loopG [] [4, 5, 6, 7] (.seq (sr (.cond .leaf .leaf)) (.block .reg)))) (sr (sr .reg))))
def F_amlink_run_round (x_b x_o : Nat) (w : World) (R : Value -> WP) : Prop :=
 (∃ m : Nat -> WP, (∃ m' : Nat, m m' w) /\
 (∀ (_ : Env)  (s : Nat) (i : World), m s i ->
 (CP N_amlink_run_send #[(.pointer (some ⟨x_b, x_o, none⟩))] i fun n j =>
 ∃ t : Bool, n = .returned (.bool t) /\
 (bsplit t
 ((∃ m' : Nat, m' < s /\ m m' j))
 ((∃ a : Nat -> WP, (∃ m' : Nat, a m' j) /\
 (∀ (_ : Env)  (g : Nat) (k : World), a g k ->
 (CP N_amlink_run_build #[(.pointer (some ⟨x_b, x_o, none⟩)), (Iv (4096 : Int))] k fun b l =>
 ∃ h : Bool, b = .returned (.bool h) /\
 (bsplit h
 ((CP N_amlink_run_deliver #[(.pointer (some ⟨x_b, x_o, none⟩)), (.bool false)] l fun c o =>
 c = .returned (.tuple #[]) /\
 (∃ m' : Nat, m' < g /\ a m' o)))
 ((CP N_amlink_run_report #[(.pointer (some ⟨x_b, x_o, none⟩)), (Iv (4096 : Int))] l fun d p =>
 d = .returned (.tuple #[]) /\
 (CP N_amlink_run_answer #[(.pointer (some ⟨x_b, x_o, none⟩)), (.bool false)] p fun e q =>
 e = .returned (.tuple #[]) /\
 (CP N_amlink_run_tick #[(.pointer (some ⟨x_b, x_o, none⟩))] q fun f r =>
 f = .returned (.tuple #[]) /\
 R (.tuple #[]) r)))))))))))))
theorem F_amlink_run_round_ok {R : EP} (x_b x_o : Nat) (w : World) (h : F_amlink_run_round x_b x_o w fun v w' => R (.returned v) w') : CP N_amlink_run_round #[(.pointer (some ⟨x_b, x_o, none⟩))] w R :=
 calls_of (k := TTk) (h := h_amlink_run_round) (f := 35) follows_ok Tryz.func35 (Eq.mpr (by kernel_rfl) h)

def h_ref02_Distance : H := (sr (.seq sc sl))
def F_ref02_Distance (n a b : Int) (w : World) (R : Value -> WP) : Prop :=
 (CP N_ref02_valid #[(Iv n)] w fun i g =>
 ∃ p : Bool, i = .returned (.bool p) /\
 (bsplit (!p)
 (R (Iv (-1 : Int)) g)
 ((CP N_ref02_Low #[(Iv n), (Iv b)] g fun c j =>
 ∃ e : Int, c = .returned (Iv e) /\
 (CP N_ref02_Low #[(Iv n), (Iv a)] j fun d k =>
 ∃ f : Int, d = .returned (Iv f) /\
 (kW .i64 (e - f) fun q =>
 (kW .u64 (n) fun h =>
 (0 <= h /\ (kW .i64 ((1 : Int) * 2 ^ (min h.toNat (IntKind.bits .i64))) fun l =>
 (kW .i64 (l - (1 : Int)) fun m =>
 (kLet (bAnd .i64 q m) fun o =>
 R (Iv o) k)))))))))))
theorem F_ref02_Distance_ok {R : EP} (n a b : Int) (w : World) (h : F_ref02_Distance n a b w fun v w' => R (.returned v) w') : CP N_ref02_Distance #[(Iv n), (Iv a), (Iv b)] w R :=
 calls_of (k := TTk) (h := h_ref02_Distance) (f := 42) follows_ok Tryz.func42 (Eq.mpr (by kernel_rfl) h)

def h_made_Mod : H := (sr (.seq sc (sr (.seq (sr (.cond .reg .leaf)) sl))))
def F_made_Mod (n m : Int) (w : World) (R : Value -> WP) : Prop :=
 (bsplit (decide (m < (1 : Int)))
 (R (Iv (0 : Int)) w)
 ((m ≠ 0 /\ (kLet (Int.tmod n m) fun a =>
 (bsplit (decide (a < (0 : Int)))
 ((kW .i64 (a + m) fun b =>
 R (Iv b) w))
 (R (Iv a) w))))))
theorem F_made_Mod_ok {R : EP} (n m : Int) (w : World) (h : F_made_Mod n m w fun v w' => R (.returned v) w') : CP N_made_Mod #[(Iv n), (Iv m)] w R :=
 calls_of (k := TTk) (h := h_made_Mod) (f := 43) follows_ok Tryz.func43 (Eq.mpr (by kernel_rfl) h)

def h_sender_New : H := (sr (.seq sc sl))
def F_sender_New (l_0 l_1 l_2 l_3 l_4 l_5 : Int) (w : World) (R : Value -> WP) : Prop :=
 (kAlloc w #[(Iv l_0), (Iv l_1), (Iv l_2), (Iv l_3), (Iv l_4), (Iv l_5)] Ty_api_Link fun a0 az =>
 (kAlloc az #[Iv (0 : Int), Iv (0 : Int), Iv (0 : Int), Iv (0 : Int), Iv (0 : Int), Iv (0 : Int), Iv (0 : Int), Iv (0 : Int), .slice none 0 0, Iv (0 : Int), Iv (0 : Int), Iv (0 : Int), .bool false] Ty_api_Sender fun ac av =>
 (∃ am an ao ap aq ar : Int, cellsAt av ⟨a0, 0, none⟩ 0 [(Iv am), (Iv an), (Iv ao), (Iv ap), (Iv aq), (Iv ar)] /\
 (CP N_sender_ValidLink #[(.agg #[Iv am, Iv an, Iv ao, Iv ap, Iv aq, Iv ar])] av fun ay au =>
 ∃ a1 : Bool, ay = .returned (.bool a1) /\
 (bsplit (!a1)
 ((sxStore au ⟨ac, 0, none⟩ 0 [(Iv (0 : Int)), (Iv (0 : Int)), (Iv (0 : Int)), (Iv (0 : Int)), (Iv (0 : Int)), (Iv (0 : Int)), (Iv (0 : Int)), (Iv (0 : Int)), (.slice none 0 0), (Iv (0 : Int)), (Iv (0 : Int)), (Iv (0 : Int)), (.bool false)] fun aw =>
 (∃ ad ae af ag ah ai aj ak : Int, ∃ g : OA, ∃ i h : Nat, ∃ al k l : Int, ∃ m : Bool, cellsAt aw ⟨ac, 0, none⟩ 0 [(Iv ad), (Iv ae), (Iv af), (Iv ag), (Iv ah), (Iv ai), (Iv aj), (Iv ak), (.slice g i h), (Iv al), (Iv k), (Iv l), (.bool m)] /\
 R (.tuple #[(.agg #[Iv ad, Iv ae, Iv af, Iv ag, Iv ah, Iv ai, Iv aj, Iv ak, .slice g i h, Iv al, Iv k, Iv l, .bool m]), (Iv (3 : Int))]) aw)))
 ((∃ v x y z aa ab : Int, cellsAt au ⟨a0, 0, none⟩ 0 [(Iv v), (Iv x), (Iv y), (Iv z), (Iv aa), (Iv ab)] /\
 (sxStore au ⟨ac, 0, none⟩ 0 [(Iv v), (Iv x), (Iv y), (Iv z), (Iv aa), (Iv ab), (Iv (0 : Int)), (Iv (0 : Int)), (.slice none 0 0), (Iv (0 : Int)), (Iv (-1 : Int)), (Iv (0 : Int)), (.bool false)] fun ax =>
 (∃ j n o p q r s t : Int, ∃ a : OA, ∃ c b : Nat, ∃ u d e : Int, ∃ f : Bool, cellsAt ax ⟨ac, 0, none⟩ 0 [(Iv j), (Iv n), (Iv o), (Iv p), (Iv q), (Iv r), (Iv s), (Iv t), (.slice a c b), (Iv u), (Iv d), (Iv e), (.bool f)] /\
 R (.tuple #[(.agg #[Iv j, Iv n, Iv o, Iv p, Iv q, Iv r, Iv s, Iv t, .slice a c b, Iv u, Iv d, Iv e, .bool f]), (Iv (0 : Int))]) ax)))))))))
theorem F_sender_New_ok {R : EP} (l_0 l_1 l_2 l_3 l_4 l_5 : Int) (w : World) (h : F_sender_New l_0 l_1 l_2 l_3 l_4 l_5 w fun v w' => R (.returned v) w') : CP N_sender_New #[(.agg #[Iv l_0, Iv l_1, Iv l_2, Iv l_3, Iv l_4, Iv l_5])] w R :=
 calls_of (k := TTk) (h := h_sender_New) (f := 44) follows_ok Tryz.func44 (Eq.mpr (by kernel_rfl) h)

def h_receiver_New : H := (sr (.seq sc sl))
def F_receiver_New (l_0 l_1 l_2 l_3 l_4 l_5 : Int) (w : World) (R : Value -> WP) : Prop :=
 (kAlloc w #[(Iv l_0), (Iv l_1), (Iv l_2), (Iv l_3), (Iv l_4), (Iv l_5)] Ty_api_Link fun a2 a1 =>
 (kAlloc a1 #[Iv (0 : Int), Iv (0 : Int), Iv (0 : Int), Iv (0 : Int), Iv (0 : Int), Iv (0 : Int), Iv (0 : Int), Iv (0 : Int), Iv (0 : Int), Iv (0 : Int), Iv (0 : Int), Iv (0 : Int), .bool false, .slice none 0 0] Ty_api_Receiver fun ad ax =>
 (∃ ao ap aq ar au av : Int, cellsAt ax ⟨a2, 0, none⟩ 0 [(Iv ao), (Iv ap), (Iv aq), (Iv ar), (Iv au), (Iv av)] /\
 (CP N_sender_ValidLink #[(.agg #[Iv ao, Iv ap, Iv aq, Iv ar, Iv au, Iv av])] ax fun a0 aw =>
 ∃ a3 : Bool, a0 = .returned (.bool a3) /\
 (bsplit (!a3)
 ((sxStore aw ⟨ad, 0, none⟩ 0 [(Iv (0 : Int)), (Iv (0 : Int)), (Iv (0 : Int)), (Iv (0 : Int)), (Iv (0 : Int)), (Iv (0 : Int)), (Iv (0 : Int)), (Iv (0 : Int)), (Iv (0 : Int)), (Iv (0 : Int)), (Iv (0 : Int)), (Iv (0 : Int)), (.bool false), (.slice none 0 0)] fun ay =>
 (∃ ae af ag ah ai aj ak al am an k l : Int, ∃ m : Bool, ∃ d : OA, ∃ f e : Nat, cellsAt ay ⟨ad, 0, none⟩ 0 [(Iv ae), (Iv af), (Iv ag), (Iv ah), (Iv ai), (Iv aj), (Iv ak), (Iv al), (Iv am), (Iv an), (Iv k), (Iv l), (.bool m), (.slice d f e)] /\
 R (.tuple #[(.agg #[Iv ae, Iv af, Iv ag, Iv ah, Iv ai, Iv aj, Iv ak, Iv al, Iv am, Iv an, Iv k, Iv l, .bool m, .slice d f e]), (Iv (3 : Int))]) ay)))
 ((∃ x y z aa ab ac : Int, cellsAt aw ⟨a2, 0, none⟩ 0 [(Iv x), (Iv y), (Iv z), (Iv aa), (Iv ab), (Iv ac)] /\
 (sxStore aw ⟨ad, 0, none⟩ 0 [(Iv x), (Iv y), (Iv z), (Iv aa), (Iv ab), (Iv ac), (Iv (0 : Int)), (Iv (0 : Int)), (Iv (0 : Int)), (Iv (-1 : Int)), (Iv (0 : Int)), (Iv (0 : Int)), (.bool false), (.slice none 0 0)] fun az =>
 (∃ j n o p q r s t u v g h : Int, ∃ i : Bool, ∃ a : OA, ∃ c b : Nat, cellsAt az ⟨ad, 0, none⟩ 0 [(Iv j), (Iv n), (Iv o), (Iv p), (Iv q), (Iv r), (Iv s), (Iv t), (Iv u), (Iv v), (Iv g), (Iv h), (.bool i), (.slice a c b)] /\
 R (.tuple #[(.agg #[Iv j, Iv n, Iv o, Iv p, Iv q, Iv r, Iv s, Iv t, Iv u, Iv v, Iv g, Iv h, .bool i, .slice a c b]), (Iv (0 : Int))]) az)))))))))
theorem F_receiver_New_ok {R : EP} (l_0 l_1 l_2 l_3 l_4 l_5 : Int) (w : World) (h : F_receiver_New l_0 l_1 l_2 l_3 l_4 l_5 w fun v w' => R (.returned v) w') : CP N_receiver_New #[(.agg #[Iv l_0, Iv l_1, Iv l_2, Iv l_3, Iv l_4, Iv l_5])] w R :=
 calls_of (k := TTk) (h := h_receiver_New) (f := 45) follows_ok Tryz.func45 (Eq.mpr (by kernel_rfl) h)

def h_amlink_begin_1 : H := (sr sl)
def F_amlink_begin_1 (_ : OA) (b_l _ : Nat) (w : World) (R : Value -> WP) : Prop :=
 (bsplit (decide ((b_l : Int) < (1 : Int)))
 (R (.bool true) w)
 ((kLet (decide ((b_l : Int) > (2054 : Int))) fun a =>
 R (.bool a) w)))
theorem F_amlink_begin_1_ok {R : EP} (b_a : OA) (b_l b_c : Nat) (w : World) (h : F_amlink_begin_1 b_a b_l b_c w fun v w' => R (.returned v) w') : CP N_amlink_begin_1 #[(.slice b_a b_l b_c)] w R :=
 calls_of (k := TTk) (h := h_amlink_begin_1) (f := 46) follows_ok Tryz.func46 (Eq.mpr (by kernel_rfl) h)

def h_slices_ContainsFunc_SSbyte_Sbyte : H := (sr sl)
def F_slices_ContainsFunc_SSbyte_Sbyte (s_a : OA) (s_l s_c f_g : Nat) (f_f : Array Value) (f_c : Array Value) (w : World) (R : Value -> WP) : Prop :=
 (CP N_slices_IndexFunc_SSbyte_Sbyte #[(.slice s_a s_l s_c), (.func (.func f_g) f_f f_c)] w fun a b =>
 ∃ c : Int, a = .returned (Iv c) /\
 (kLet (decide (c >= (0 : Int))) fun d =>
 R (.bool d) b))
theorem F_slices_ContainsFunc_SSbyte_Sbyte_ok {R : EP} (s_a : OA) (s_l s_c f_g : Nat) (f_f : Array Value) (f_c : Array Value) (w : World) (h : F_slices_ContainsFunc_SSbyte_Sbyte s_a s_l s_c f_g f_f f_c w fun v w' => R (.returned v) w') : CP N_slices_ContainsFunc_SSbyte_Sbyte #[(.slice s_a s_l s_c), (.func (.func f_g) f_f f_c)] w R :=
 calls_of (k := TTk) (h := h_slices_ContainsFunc_SSbyte_Sbyte) (f := 47) follows_ok Tryz.func47 (Eq.mpr (by kernel_rfl) h)

def h_slices_Clone_SSbyte_Sbyte : H := (sr (.seq sc sl))
def F_slices_Clone_SSbyte_Sbyte (s_a : OA) (s_l s_c : Nat) (w : World) (R : Value -> WP) : Prop :=
 (bsplit s_a.isNone
 (R (.slice none 0 0) w)
 ((kAlloc w #[] Ty_S_uint8 fun f d =>
 (AppP Tryz.prog #[Ty_S_S_uint8, Ty_S_S_uint8] Ty_S_S_uint8 #[(.slice (some ⟨f, 0, none⟩) 0 0), (.slice s_a s_l s_c)] d fun a c b e =>
 R (.slice a c b) e))))
theorem F_slices_Clone_SSbyte_Sbyte_ok {R : EP} (s_a : OA) (s_l s_c : Nat) (w : World) (h : F_slices_Clone_SSbyte_Sbyte s_a s_l s_c w fun v w' => R (.returned v) w') : CP N_slices_Clone_SSbyte_Sbyte #[(.slice s_a s_l s_c)] w R :=
 calls_of (k := TTk) (h := h_slices_Clone_SSbyte_Sbyte) (f := 48) follows_ok Tryz.func48 (Eq.mpr (by kernel_rfl) h)

def h_amlink_run_step : H := (sr (sr (.block (sr (.cond .reg (sr (.cond .reg (sr (.cond .reg (sr (.cond .reg (sr (.cond .reg (sr (.cond .reg (sr (.cond .reg (sr (.cond .reg (sr (.cond .reg (sr (.cond .reg .leaf)))))))))))))))))))))))
def F_amlink_run_step (x_b x_o : Nat) (t_0 t_1 : Int) (w : World) (R : Value -> WP) : Prop :=
 (kAlloc w #[(Iv t_0), (Iv t_1)] Ty_api_Step fun x a =>
 (kLd a ⟨x, 0, none⟩ .i64 fun b =>
 (kLet (decide (b = (1 : Int))) fun ak =>
 (bsplit ak
 ((CP N_amlink_run_send #[(.pointer (some ⟨x_b, x_o, none⟩))] a fun y ac =>
 ∃ av : Bool, y = .returned (.bool av) /\
 R (.tuple #[]) ac))
 ((kLet (decide (b = (2 : Int))) fun al =>
 (bsplit al
 ((kLd a ⟨x, 1, none⟩ .i64 fun am =>
 (CP N_amlink_run_build #[(.pointer (some ⟨x_b, x_o, none⟩)), (Iv am)] a fun f ad =>
 ∃ z : Bool, f = .returned (.bool z) /\
 R (.tuple #[]) ad)))
 ((kLet (decide (b = (3 : Int))) fun an =>
 (bsplit an
 ((CP N_amlink_run_deliver #[(.pointer (some ⟨x_b, x_o, none⟩)), (.bool false)] a fun g ae =>
 g = .returned (.tuple #[]) /\
 R (.tuple #[]) ae))
 ((kLet (decide (b = (5 : Int))) fun ao =>
 (bsplit ao
 ((CP N_amlink_run_deliver #[(.pointer (some ⟨x_b, x_o, none⟩)), (.bool true)] a fun h af =>
 h = .returned (.tuple #[]) /\
 R (.tuple #[]) af))
 ((kLet (decide (b = (4 : Int))) fun ap =>
 (bsplit ap
 ((CP N_amlink_queue_first #[(.pointer (some ⟨x_b, x_o + 28, none⟩)), (.bool false)] a fun i ag =>
 ∃ o : OA, ∃ q p : Nat, ∃ aa : Bool, i = .returned (.tuple #[(.slice o q p), (.bool aa)]) /\
 R (.tuple #[]) ag))
 ((kLet (decide (b = (7 : Int))) fun aq =>
 (bsplit aq
 ((kLd a ⟨x, 1, none⟩ .i64 fun ar =>
 (CP N_amlink_run_report #[(.pointer (some ⟨x_b, x_o, none⟩)), (Iv ar)] a fun j ah =>
 j = .returned (.tuple #[]) /\
 R (.tuple #[]) ah)))
 ((kLet (decide (b = (8 : Int))) fun au =>
 (bsplit au
 ((CP N_amlink_run_answer #[(.pointer (some ⟨x_b, x_o, none⟩)), (.bool false)] a fun k ai =>
 k = .returned (.tuple #[]) /\
 R (.tuple #[]) ai))
 ((kLet (decide (b = (10 : Int))) fun t =>
 (bsplit t
 ((CP N_amlink_run_answer #[(.pointer (some ⟨x_b, x_o, none⟩)), (.bool true)] a fun l aj =>
 l = .returned (.tuple #[]) /\
 R (.tuple #[]) aj))
 ((kLet (decide (b = (9 : Int))) fun u =>
 (bsplit u
 ((CP N_amlink_queue_first #[(.pointer (some ⟨x_b, x_o + 29, none⟩)), (.bool false)] a fun m r =>
 ∃ c : OA, ∃ e d : Nat, ∃ ab : Bool, m = .returned (.tuple #[(.slice c e d), (.bool ab)]) /\
 R (.tuple #[]) r))
 ((kLet (decide (b = (11 : Int))) fun v =>
 (bsplit v
 ((CP N_amlink_run_tick #[(.pointer (some ⟨x_b, x_o, none⟩))] a fun n s =>
 n = .returned (.tuple #[]) /\
 R (.tuple #[]) s))
 (R (.tuple #[]) a))))))))))))))))))))))))))))))))
theorem F_amlink_run_step_ok {R : EP} (x_b x_o : Nat) (t_0 t_1 : Int) (w : World) (h : F_amlink_run_step x_b x_o t_0 t_1 w fun v w' => R (.returned v) w') : CP N_amlink_run_step #[(.pointer (some ⟨x_b, x_o, none⟩)), (.agg #[Iv t_0, Iv t_1])] w R :=
 calls_of (k := TTk) (h := h_amlink_run_step) (f := 49) follows_ok Tryz.func49 (Eq.mpr (by kernel_rfl) h)

def h_amlink_queue_first : H := (sr (.seq sc (sr (.seq (sr (.cond .reg .leaf)) sl))))
def F_amlink_queue_first (q_b q_o : Nat) (keep : Bool) (w : World) (R : Value -> WP) : Prop :=
 (kLdS w ⟨q_b, q_o, none⟩ fun _ i _ =>
 (bsplit (decide ((i : Int) = (0 : Int)))
 (R (.tuple #[(.slice none 0 0), (.bool false)]) w)
 ((kLdS w ⟨q_b, q_o, none⟩ fun f h _ =>
 (kIx f h (0 : Int) fun k =>
 (kLdS w (k.add ((0 : Int).toNat * 1)) fun a d b =>
 (bsplit (!keep)
 ((kLdS w ⟨q_b, q_o, none⟩ fun g e c =>
 ((0 <= (1 : Int) /\ (1 : Int) <= ((e : Nat) : Int)) /\ (kSet w ⟨q_b, q_o, none⟩ (.slice (slAddr c ((1 : Int).toNat) 1 g) (e - (1 : Int).toNat) (c - (1 : Int).toNat)) fun j =>
 R (.tuple #[(.slice a d b), (.bool true)]) j))))
 (R (.tuple #[(.slice a d b), (.bool true)]) w))))))))
theorem F_amlink_queue_first_ok {R : EP} (q_b q_o : Nat) (keep : Bool) (w : World) (h : F_amlink_queue_first q_b q_o keep w fun v w' => R (.returned v) w') : CP N_amlink_queue_first #[(.pointer (some ⟨q_b, q_o, none⟩)), (.bool keep)] w R :=
 calls_of (k := TTk) (h := h_amlink_queue_first) (f := 50) follows_ok Tryz.func50 (Eq.mpr (by kernel_rfl) h)

def h_receiver_Receive : H := (sr (.seq sc (sr (sr (.seq sc (.cut [(10, .p .addr)] ([10] ++ rg 37 11) (.draw .blk (so 0 9 (.alt 9 (.alt 10 (ko 11 1 (lo 12 1 .nil)) (.alt 11 (ko 10 1 (lo 12 1 .nil)) .endAlt)) (.alt 11 (ko 9 2 (lo 12 1 .nil)) .endAlt)))) (.seq (.draw .blk (so 0 5 (po 5 4 (so 10 1 (ko 9 1 (ko 11 1 (so 12 5 .nil))))))) (.seq (sr (sr (.cond (sr sl) .leaf))) (.cut [] (rg 78 18) (sr (.cond (.draw .blk (so 0 7 (po 7 3 (ko 10 3 (so 13 3 (lo 16 1 .nil)))))) .leaf)) (.cut [] (rg 96 22) (.seq (.draw .blk (po 0 4 (so 5 6 (ko 4 1 (ko 11 1 (so 12 1 .nil)))))) (.cond (.draw .blk (so 0 1 (po 1 4 (ko 5 1 (so 6 3 (lo 9 1 .nil)))))) .leaf)) (sr (sr (sr (.cut [(15, .p .slice)] ([15] ++ rg 128 14) (sr (.cond (sr .reg) .leaf)) (sr (sr (sr sl)))))))))))))))))
def F_receiver_Receive (r_0 r_1 r_2 r_3 r_4 r_5 r_6 r_7 r_8 r_9 r_10 r_11 : Int) (r_12 : Bool) (r_13_a : OA) (r_13_l r_13_c : Nat) (b_a : OA) (b_l b_c : Nat) (w : World) (R : Value -> WP) : Prop :=
 (kAlloc w #[(Iv r_0), (Iv r_1), (Iv r_2), (Iv r_3), (Iv r_4), (Iv r_5), (Iv r_6), (Iv r_7), (Iv r_8), (Iv r_9), (Iv r_10), (Iv r_11), (.bool r_12), (.slice r_13_a r_13_l r_13_c)] Ty_api_Receiver fun i6 i9 =>
 (kAlloc i9 #[Iv (0 : Int), Iv (0 : Int), Iv (0 : Int), Iv (0 : Int), Iv (0 : Int), Iv (0 : Int), Iv (0 : Int), Iv (0 : Int), Iv (0 : Int), Iv (0 : Int), Iv (0 : Int), Iv (0 : Int), .bool false, .slice none 0 0] Ty_api_Receiver fun am ig =>
 (∃ gu gv gw gx gy gz g0 g1 g2 g3 d9 ea : Int, ∃ eb : Bool, ∃ ar : OA, ∃ av au : Nat, cellsAt ig ⟨i6, 0, none⟩ 0 [(Iv gu), (Iv gv), (Iv gw), (Iv gx), (Iv gy), (Iv gz), (Iv g0), (Iv g1), (Iv g2), (Iv g3), (Iv d9), (Iv ea), (.bool eb), (.slice ar av au)] /\
 (CP N_receiver_Valid #[(.agg #[Iv gu, Iv gv, Iv gw, Iv gx, Iv gy, Iv gz, Iv g0, Iv g1, Iv g2, Iv g3, Iv d9, Iv ea, .bool eb, .slice ar av au])] ig fun i8 hj =>
 ∃ jh : Bool, i8 = .returned (.bool jh) /\
 (bsplit (!jh)
 ((sxStore hj ⟨am, 0, none⟩ 0 [(Iv (0 : Int)), (Iv (0 : Int)), (Iv (0 : Int)), (Iv (0 : Int)), (Iv (0 : Int)), (Iv (0 : Int)), (Iv (0 : Int)), (Iv (0 : Int)), (Iv (0 : Int)), (Iv (0 : Int)), (Iv (0 : Int)), (Iv (0 : Int)), (.bool false), (.slice none 0 0)] fun ik =>
 (∃ cl cq cv c0 c5 c9 dd dh dl dq be bi : Int, ∃ bm : Bool, ∃ j : OA, ∃ r n : Nat, cellsAt ik ⟨am, 0, none⟩ 0 [(Iv cl), (Iv cq), (Iv cv), (Iv c0), (Iv c5), (Iv c9), (Iv dd), (Iv dh), (Iv dl), (Iv dq), (Iv be), (Iv bi), (.bool bm), (.slice j r n)] /\
 R (.tuple #[(.agg #[Iv cl, Iv cq, Iv cv, Iv c0, Iv c5, Iv c9, Iv dd, Iv dh, Iv dl, Iv dq, Iv be, Iv bi, .bool bm, .slice j r n]), (.slice none 0 0), (Iv (1 : Int))]) ik)))
 ((∃ d1 ec ei eq ey e2 e8 fe fi fm bz b4 : Int, ∃ ca : Bool, ∃ v : OA, ∃ ae aa : Nat, cellsAt hj ⟨i6, 0, none⟩ 0 [(Iv d1), (Iv ec), (Iv ei), (Iv eq), (Iv ey), (Iv e2), (Iv e8), (Iv fe), (Iv fi), (Iv fm), (Iv bz), (Iv b4), (.bool ca), (.slice v ae aa)] /\
 (CP N_receiver_begin #[(.agg #[Iv d1, Iv ec, Iv ei, Iv eq, Iv ey, Iv e2, Iv e8, Iv fe, Iv fi, Iv fm, Iv bz, Iv b4, .bool ca, .slice v ae aa])] hj fun h0 ja =>
 ∃ h9 : OA, h0 = .returned (.pointer h9) /\
 (kAlloc ja #[.pointer none] Ty_P_receiver_side fun a jb =>
 (kSet jb ⟨a, 0, none⟩ (.pointer h9) fun im =>
 (kLd im ⟨i6, 0, none⟩ .i64 fun ji =>
 (CP N_segment_Decode #[(Iv ji), (.slice b_a b_l b_c)] im fun h1 jc =>
 ∃ cm cr cw c1 : Int, ∃ bq : OA, ∃ bs br : Nat, ∃ hf : Int, h1 = .returned (.tuple #[(.agg #[Iv cm, Iv cr, Iv cw, Iv c1, .slice bq bs br]), (Iv hf)]) /\
 (kAlloc jc #[Iv (0 : Int), Iv (0 : Int), Iv (0 : Int), Iv (0 : Int), .slice none 0 0] Ty_api_Piece fun h jd =>
 (sxStore jd ⟨h, 0, none⟩ 0 [(Iv cm), (Iv cr), (Iv cw), (Iv c1), (.slice bq bs br)] fun bt =>
 (bsplit (!decide (hf = (0 : Int)))
 ((∃ io : OA, bt.cell? ⟨a, 0, none⟩ = some (.pointer io) /\
 (kNil io fun je =>
 (∃ d2 ed ej er ez e3 e9 ff fj fn b0 b5 : Int, ∃ cb : Bool, ∃ x : OA, ∃ af ab : Nat, cellsAt bt je 0 [(Iv d2), (Iv ed), (Iv ej), (Iv er), (Iv ez), (Iv e3), (Iv e9), (Iv ff), (Iv fj), (Iv fn), (Iv b0), (Iv b5), (.bool cb), (.slice x af ab)] /\
 (sxStore bt ⟨am, 0, none⟩ 0 [(Iv d2), (Iv ed), (Iv ej), (Iv er), (Iv ez), (Iv e3), (Iv e9), (Iv ff), (Iv fj), (Iv fn), (Iv b0), (Iv b5), (.bool cb), (.slice x af ab)] fun fz =>
 (∃ cn cs cx c2 c6 da de di dm dr bf bj : Int, ∃ bn : Bool, ∃ k : OA, ∃ s o : Nat, cellsAt fz ⟨am, 0, none⟩ 0 [(Iv cn), (Iv cs), (Iv cx), (Iv c2), (Iv c6), (Iv da), (Iv de), (Iv di), (Iv dm), (Iv dr), (Iv bf), (Iv bj), (.bool bn), (.slice k s o)] /\
 R (.tuple #[(.agg #[Iv cn, Iv cs, Iv cx, Iv c2, Iv c6, Iv da, Iv de, Iv di, Iv dm, Iv dr, Iv bf, Iv bj, .bool bn, .slice k s o]), (.slice none 0 0), (Iv hf)]) fz))))))
 ((∃ i5 : Addr -> WP,
 (∀ (_ : Env) (fs : Addr) (f2 : World), i5 fs f2 ->
 (kDrew f2 fun i =>
 (∃ fq : Nat -> Prop,
 (fq a /\
 (∃ i1 : OA, i.cell? ⟨a, 0, none⟩ = some (.pointer i1) /\
 (kNil i1 fun i2 =>
 (fq (i2.add 13).block /\
 (kLdS i (i2.add 13) fun hl hs hp =>
 (∃ i3 : OA, i.cell? ⟨a, 0, none⟩ = some (.pointer i3) /\
 (kLd i fs .i64 fun jg =>
 (CP N_receiver_side_place #[(.pointer i3), (Iv jg)] i fun h4 f3 =>
 ∃ ib : Int, h4 = .returned (Iv ib) /\
 (KeepsB fq i f3 /\ (CP N_slices_BinarySearchFunc_Sapi_Partial_api_Partial_int #[(.slice hl hs hp), (Iv ib), (.func (.func N_receiver_Receive_1) #[] #[(.pointer (some ⟨a, 0, none⟩))])] f3 fun h5 bv =>
 ∃ an : Int, ∃ hh : Bool, h5 = .returned (.tuple #[(Iv an), (.bool hh)]) /\
 (KeepsB fq i bv /\ (∃ gd : OA, bv.cell? ⟨a, 0, none⟩ = some (.pointer gd) /\
 (∃ d3 ee ek es : Int, ∃ aw : OA, ∃ a6 a1 : Nat, ∃ e4 : Int, ∃ fa : Bool, cellsAt bv fs 0 [(Iv d3), (Iv ee), (Iv ek), (Iv es), (.slice aw a6 a1), (Iv e4), (.bool fa)] /\
 (CP N_receiver_side_refused #[(.pointer gd), (.agg #[Iv d3, Iv ee, Iv ek, Iv es, .slice aw a6 a1, Iv e4, .bool fa]), (Iv an), (.bool hh)] bv fun h6 ao =>
 ∃ hi : Int, h6 = .returned (Iv hi) /\
 (bsplit (!decide (hi = (0 : Int)))
 ((∃ ge : OA, ao.cell? ⟨a, 0, none⟩ = some (.pointer ge) /\
 (∃ d4 ef el et : Int, ∃ ax : OA, ∃ a7 a2 : Nat, cellsAt ao ⟨h, 0, none⟩ 0 [(Iv d4), (Iv ef), (Iv el), (Iv et), (.slice ax a7 a2)] /\
 (CP N_receiver_side_poll #[(.pointer ge), (.agg #[Iv d4, Iv ef, Iv el, Iv et, .slice ax a7 a2])] ao fun h7 dw =>
 h7 = .returned (.tuple #[]) /\
 (∃ gf : OA, dw.cell? ⟨a, 0, none⟩ = some (.pointer gf) /\
 (kNil gf fun ip =>
 (∃ d5 eg em eu e0 e5 fb fg fk fo b1 b6 : Int, ∃ cc : Bool, ∃ y : OA, ∃ ag ac : Nat, cellsAt dw ip 0 [(Iv d5), (Iv eg), (Iv em), (Iv eu), (Iv e0), (Iv e5), (Iv fb), (Iv fg), (Iv fk), (Iv fo), (Iv b1), (Iv b6), (.bool cc), (.slice y ag ac)] /\
 (sxStore dw ⟨am, 0, none⟩ 0 [(Iv d5), (Iv eg), (Iv em), (Iv eu), (Iv e0), (Iv e5), (Iv fb), (Iv fg), (Iv fk), (Iv fo), (Iv b1), (Iv b6), (.bool cc), (.slice y ag ac)] fun f4 =>
 (∃ co ct cy c3 c7 db df dj dn ds bg bk : Int, ∃ bo : Bool, ∃ l : OA, ∃ t p : Nat, cellsAt f4 ⟨am, 0, none⟩ 0 [(Iv co), (Iv ct), (Iv cy), (Iv c3), (Iv c7), (Iv db), (Iv df), (Iv dj), (Iv dn), (Iv ds), (Iv bg), (Iv bk), (.bool bo), (.slice l t p)] /\
 R (.tuple #[(.agg #[Iv co, Iv ct, Iv cy, Iv c3, Iv c7, Iv db, Iv df, Iv dj, Iv dn, Iv ds, Iv bg, Iv bk, .bool bo, .slice l t p]), (.slice none 0 0), (Iv hi)]) f4)))))))))
 ((∃ g4 : WP,
 (∀ (_ : Env)  (f7 : World), g4 f7 ->
 (∃ g5 : WP,
 (∀ (_ : Env)  (aq : World), g5 aq ->
 (∃ gp : OA, aq.cell? ⟨a, 0, none⟩ = some (.pointer gp) /\
 (kNil gp fun ix =>
 (kLdS aq (ix.add 13) fun hn hu _ =>
 (kIx hn hu an fun fr =>
 (∃ d6 eh en ev : Int, ∃ ay : OA, ∃ a8 a3 : Nat, ∃ e6 : Int, ∃ fc : Bool, cellsAt aq fs 0 [(Iv d6), (Iv eh), (Iv en), (Iv ev), (.slice ay a8 a3), (Iv e6), (.bool fc)] /\
 (CP N_receiver_piece_put #[(.agg #[Iv d6, Iv eh, Iv en, Iv ev, .slice ay a8 a3, Iv e6, .bool fc]), (.pointer (some (fr.add (an.toNat * 5))))] aq fun ha ga =>
 ha = .returned (.tuple #[]) /\
 (∃ g6 : OA -> Nat -> Nat -> WP,
 (∀ (_ : Env) (bb : OA) (bd : Nat) (bc : Nat) (dy : World), g6 bb bd bc dy ->
 (∃ gq : OA, dy.cell? ⟨a, 0, none⟩ = some (.pointer gq) /\
 (CP N_receiver_side_advance #[(.pointer gq)] dy fun hc gb =>
 hc = .returned (.tuple #[]) /\
 (∃ gr : OA, gb.cell? ⟨a, 0, none⟩ = some (.pointer gr) /\
 (CP N_receiver_side_start #[(.pointer gr)] gb fun hd dz =>
 hd = .returned (.tuple #[]) /\
 (∃ gs : OA, dz.cell? ⟨a, 0, none⟩ = some (.pointer gs) /\
 (∃ d8 b7 ep ew : Int, ∃ a0 : OA, ∃ ba a5 : Nat, cellsAt dz ⟨h, 0, none⟩ 0 [(Iv d8), (Iv b7), (Iv ep), (Iv ew), (.slice a0 ba a5)] /\
 (CP N_receiver_side_poll #[(.pointer gs), (.agg #[Iv d8, Iv b7, Iv ep, Iv ew, .slice a0 ba a5])] dz fun he d0 =>
 he = .returned (.tuple #[]) /\
 (∃ gt : OA, d0.cell? ⟨a, 0, none⟩ = some (.pointer gt) /\
 (kNil gt fun iz =>
 (∃ bx b8 ce ex e1 e7 fd fh fl fp b2 b9 : Int, ∃ cd : Bool, ∃ z : OA, ∃ ah ad : Nat, cellsAt d0 iz 0 [(Iv bx), (Iv b8), (Iv ce), (Iv ex), (Iv e1), (Iv e7), (Iv fd), (Iv fh), (Iv fl), (Iv fp), (Iv b2), (Iv b9), (.bool cd), (.slice z ah ad)] /\
 (sxStore d0 ⟨am, 0, none⟩ 0 [(Iv bx), (Iv b8), (Iv ce), (Iv ex), (Iv e1), (Iv e7), (Iv fd), (Iv fh), (Iv fl), (Iv fp), (Iv b2), (Iv b9), (.bool cd), (.slice z ah ad)] fun gc =>
 (∃ cp cu cz c4 c8 dc dg dk dp dt bh bl : Int, ∃ bp : Bool, ∃ m : OA, ∃ u q : Nat, cellsAt gc ⟨am, 0, none⟩ 0 [(Iv cp), (Iv cu), (Iv cz), (Iv c4), (Iv c8), (Iv dc), (Iv dg), (Iv dk), (Iv dp), (Iv dt), (Iv bh), (Iv bl), (.bool bp), (.slice m u q)] /\
 R (.tuple #[(.agg #[Iv cp, Iv cu, Iv cz, Iv c4, Iv c8, Iv dc, Iv dg, Iv dk, Iv dp, Iv dt, Iv bh, Iv bl, .bool bp, .slice m u q]), (.slice bb bd bc), (Iv (0 : Int))]) gc))))))))))))) /\
 (∃ d7 : Int, ∃ b3 : Bool, ∃ eo : Int, ∃ cf : OA, ∃ ch cg : Nat, ∃ az : OA, ∃ a9 a4 : Nat, cellsAt ga (fr.add (an.toNat * 5)) 0 [(Iv d7), (.bool b3), (Iv eo), (.slice cf ch cg), (.slice az a9 a4)] /\
 (CP N_receiver_complete #[(.agg #[Iv d7, .bool b3, Iv eo, .slice cf ch cg, .slice az a9 a4])] ga fun hb bw =>
 ∃ fv : Bool, hb = .returned (.bool fv) /\
 (bsplit fv
 ((kLdS bw ((fr.add (an.toNat * 5)).add 3) fun ho hv hr =>
 (kLd bw fs .i64 fun iy =>
 (sxStore bw (fr.add (an.toNat * 5)) 0 [(Iv iy), (.bool true), (Iv (0 : Int)), (.slice none 0 0), (.slice none 0 0)] fun il =>
 g6 ho hv hr il))))
 (g6 none 0 0 bw)))))))))))) /\
 (kDrew f7 fun d =>
 (∃ ck : Nat -> Prop,
 (∃ gj : OA, d.cell? ⟨a, 0, none⟩ = some (.pointer gj) /\
 (kLd d fs .i64 fun it =>
 (ck a /\
 (∃ gk : OA, d.cell? ⟨a, 0, none⟩ = some (.pointer gk) /\
 (ck a /\
 (∃ gl : OA, d.cell? ⟨a, 0, none⟩ = some (.pointer gl) /\
 (kNil gl fun gm =>
 (ck (gm.add 7).block /\
 (kLd d (gm.add 7) .i64 fun iu =>
 (CP N_receiver_side_place #[(.pointer gj), (Iv it)] d fun g7 f8 =>
 ∃ ic : Int, g7 = .returned (Iv ic) /\
 (KeepsB ck d f8 /\ (CP N_receiver_side_place #[(.pointer gk), (Iv iu)] f8 fun g8 dx =>
 ∃ ft : Int, g8 = .returned (Iv ft) /\
 (KeepsB ck d dx /\ (bsplit (decide (ic >= ft))
 ((kDrew dx fun ap =>
 (∃ hw : Nat -> Prop,
 (hw a /\
 (∃ gn : OA, ap.cell? ⟨a, 0, none⟩ = some (.pointer gn) /\
 (∃ go : OA, ap.cell? ⟨a, 0, none⟩ = some (.pointer go) /\
 (kLd ap fs .i64 fun iv =>
 (CP N_receiver_side_behind #[(.pointer go), (Iv iv)] ap fun g9 f9 =>
 ∃ fu : Int, g9 = .returned (Iv fu) /\
 (KeepsB hw ap f9 /\ (kNil gn fun iw =>
 (kSet f9 (iw.add 7) (Iv fu) fun ij =>
 g5 ij)))))))))))
 (g5 dx))))))))))))))))))) /\
 (bsplit (!hh)
 ((kDrew ao fun c =>
 (∃ ci : Nat -> Prop,
 (ci a /\
 (∃ gg : OA, c.cell? ⟨a, 0, none⟩ = some (.pointer gg) /\
 (ci a /\
 (∃ gh : OA, c.cell? ⟨a, 0, none⟩ = some (.pointer gh) /\
 (kNil gh fun gi =>
 (ci (gi.add 13).block /\
 (kLdS c (gi.add 13) fun hm ht hq =>
 (kLd c fs .i64 fun iq =>
 (KeepsB ci c c /\ (kAlloc c #[(Iv iq), (.bool false), (Iv (-1 : Int)), (.slice none 0 0), (.slice none 0 0)] Ty_api_Partial fun i7 f5 =>
 (KeepsB ci c f5 /\ (CP N_slices_Insert_Sapi_Partial_api_Partial #[(.slice hm ht hq), (Iv an), (.slice (some ⟨i7, 0, none⟩) 1 1)] f5 fun h8 f6 =>
 ∃ fw : OA, ∃ fy fx : Nat, h8 = .returned (.slice fw fy fx) /\
 (KeepsB ci c f6 /\ (kNil gg fun ir =>
 (kSet f6 (ir.add 13) (.slice fw fy fx) fun ii =>
 g4 ii))))))))))))))))))
 (g4 ao)))))))))))))))))))))) /\
 (kDrew bt fun b =>
 (∃ cj : Nat -> Prop,
 (cj h /\
 (∃ ai aj ak al : Int, ∃ e : OA, ∃ g f : Nat, cellsAt b ⟨h, 0, none⟩ 0 [(Iv ai), (Iv aj), (Iv ak), (Iv al), (.slice e g f)] /\
 (cj h /\
 (kLd b ⟨h, 3, none⟩ .i64 fun jf =>
 (cj h /\
 (kLdS b ⟨h, 4, none⟩ fun _ i4 _ =>
 (kW .i64 (jf + (i4 : Int)) fun hk =>
 (cj h /\
 (kLd b ⟨h, 1, none⟩ .i64 fun i0 =>
 ((CP N_segment_Ends #[(Iv i0)] b fun h3 bu =>
 ∃ hg : Bool, h3 = .returned (.bool hg) /\
 (KeepsB cj b bu /\ ((KeepsB cj b bu /\ (kAlloc bu #[Iv (0 : Int), Iv (0 : Int), Iv (0 : Int), Iv (0 : Int), .slice none 0 0, Iv (0 : Int), .bool false] Ty_receiver_piece fun hz f1 =>
 (KeepsB cj b f1 /\ (sxStore f1 ⟨hz, 0, none⟩ 0 [(Iv ai), (Iv aj), (Iv ak), (Iv al), (.slice e g f), (Iv hk), (.bool hg)] fun ih =>
 i5 ⟨hz, 0, none⟩ ih)))) /\
 ((kAlloc bu #[Iv (0 : Int), Iv (0 : Int), Iv (0 : Int), Iv (0 : Int), .slice none 0 0, Iv (0 : Int), .bool false] Ty_receiver_piece fun hy dv =>
 (KeepsB cj b dv /\ (KeepsB cj b dv /\ (sxStore dv ⟨hy, 0, none⟩ 0 [(Iv ai), (Iv aj), (Iv ak), (Iv al), (.slice e g f), (Iv hk), (.bool hg)] fun ie =>
 i5 ⟨hy, 0, none⟩ ie)))) /\
 True)))) /\
 ((kAlloc b #[Iv (0 : Int), Iv (0 : Int), Iv (0 : Int), Iv (0 : Int), .slice none 0 0, Iv (0 : Int), .bool false] Ty_receiver_piece fun hx f0 =>
 (KeepsB cj b f0 /\ (CP N_segment_Ends #[(Iv i0)] f0 fun h2 du =>
 ∃ ia : Bool, h2 = .returned (.bool ia) /\
 (KeepsB cj b du /\ (KeepsB cj b du /\ (sxStore du ⟨hx, 0, none⟩ 0 [(Iv ai), (Iv aj), (Iv ak), (Iv al), (.slice e g f), (Iv hk), (.bool ia)] fun id =>
 i5 ⟨hx, 0, none⟩ id)))))) /\
 True))))))))))))))))))))))))))))))
theorem F_receiver_Receive_ok {R : EP} (r_0 r_1 r_2 r_3 r_4 r_5 r_6 r_7 r_8 r_9 r_10 r_11 : Int) (r_12 : Bool) (r_13_a : OA) (r_13_l r_13_c : Nat) (b_a : OA) (b_l b_c : Nat) (w : World) (h : F_receiver_Receive r_0 r_1 r_2 r_3 r_4 r_5 r_6 r_7 r_8 r_9 r_10 r_11 r_12 r_13_a r_13_l r_13_c b_a b_l b_c w fun v w' => R (.returned v) w') : CP N_receiver_Receive #[(.agg #[Iv r_0, Iv r_1, Iv r_2, Iv r_3, Iv r_4, Iv r_5, Iv r_6, Iv r_7, Iv r_8, Iv r_9, Iv r_10, Iv r_11, .bool r_12, .slice r_13_a r_13_l r_13_c]), (.slice b_a b_l b_c)] w R :=
 calls_of (k := TTk) (h := h_receiver_Receive) (f := 51) follows_ok Tryz.func51 (Eq.mpr (by kernel_rfl) h)

end Go.Proofs.YtmbppohkadmjgaaGreat
