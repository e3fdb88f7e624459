import Derived.Test.YtlgolgpellbnbaaGreatBase
import Derived.KernelRfl
namespace Go.Proofs.YtlgolgpellbnbaaGreat
open Go.Sx Go.RowKit
set_option maxRecDepth 100000

def h_ref21_has : H := (.seq .reg (.seq (.seq .reg (.block (.loop [(5, .p (.int .i64))] [4, 5, 6, 7, 8, 9, 10, 11, 12, 13, 14, 15, 16, 17, 18, 19, 20, 21, 22, 23, 24, 25, 26, 27, 28, 29, 30, 31, 32, 33, 34, 35, 36, 37, 38, 39, 40, 41, 42, 43, 44] (.seq (.seq .reg (.cond .leaf .leaf)) (.seq (.block (.seq (.draw .no (.one 0 .stable (.one 1 .stable (.one 2 .stable (.one 3 .stable (.one 4 .stable (.one 5 .stable (.one 6 .stable (.one 7 .stable (.one 8 .stable (.one 9 .stable (.one 10 .stable (.one 11 .stable (.one 12 .stable (.one 13 .stable (.one 14 .stable (.one 15 .stable (.one 16 .stable (.one 17 .stable (.one 18 .stable (.one 19 .stable (.one 20 .stable (.one 21 .stable (.one 22 .stable (.one 23 .stable .nil))))))))))))))))))))))))) (.cond (.seq .reg .leaf) .leaf))) .reg))))) (.seq .reg .leaf)))
def F_ref21_has (x_0 : Int) (x_1 : Bool) (x_2 : Int) (x_3_a : OA) (x_3_l x_3_c : Nat) (x_4_a : OA) (x_4_l x_4_c : Nat) (p_0 p_1 p_2 p_3 : Int) (p_4_a : OA) (p_4_l p_4_c : Nat) (w : World) (R : Value → WP) : Prop :=
 (kAlloc w #[(Iv x_0), (.bool x_1), (Iv x_2), (.slice x_3_a x_3_l x_3_c), (.slice x_4_a x_4_l x_4_c)] Ty_api_Partial fun u z =>
 (kAlloc z #[(Iv p_0), (Iv p_1), (Iv p_2), (Iv p_3), (.slice p_4_a p_4_l p_4_c)] Ty_api_Piece fun i aa =>
 (∃ k : Int → Nat × (WP), (k (0 : Int)).2 aa ∧
 (∀ (_ : Env) (h : Int) (j : World), (k h).2 j →
 (kLdS j ⟨u, 4, none⟩ fun _ t _ =>
 (bsplit (decide (h < (t : Int)))
 ((kDrew j fun a =>
 (kLdS a ⟨u, 4, none⟩ fun m o _ =>
 (kIx m o h fun v =>
 (kLd a ((v.add (h.toNat * 3)).add 1) .i64 fun ai =>
 (kLd a ⟨i, 3, none⟩ .i64 fun ac =>
 (bsplit (decide (ai ≤ ac))
 ((kLdS a ⟨u, 4, none⟩ fun n p _ =>
 (kIx n p h fun x =>
 (kLd a ((x.add (h.toNat * 3)).add 2) .i64 fun ad =>
 (kLd a ⟨i, 3, none⟩ .i64 fun ae =>
 (kLdS a ⟨i, 4, none⟩ fun _ q _ =>
 (kW .i64 (ae + (q : Int)) fun af =>
 (bsplit (decide (ad ≥ af))
 ((kLd a ⟨u, 2, none⟩ .i64 fun ag =>
 (bsplit (!decide (ag = (-1 : Int)))
 (R (.bool true) a)
 ((∃ e f g l : Int, ∃ b : OA, ∃ d c : Nat, cellsAt a ⟨i, 0, none⟩ 0 [(Iv e), (Iv f), (Iv g), (Iv l), (.slice b d c)] ∧
 (CP N_ref21_ends #[(.agg #[Iv e, Iv f, Iv g, Iv l, .slice b d c])] a fun y ab =>
 ∃ ah : Bool, y = .returned (.bool ah) ∧
 R (.bool (!ah)) ab))))))
 ((kW .i64 (h + (1 : Int)) fun r =>
 ((k r).2 a ∧ (k r).1 < (k h).1)))))))))))
 ((kW .i64 (h + (1 : Int)) fun s =>
 ((k s).2 a ∧ (k s).1 < (k h).1))))))))))
 (R (.bool false) j)))))))
theorem F_ref21_has_ok {R : EP} (x_0 : Int) (x_1 : Bool) (x_2 : Int) (x_3_a : OA) (x_3_l x_3_c : Nat) (x_4_a : OA) (x_4_l x_4_c : Nat) (p_0 p_1 p_2 p_3 : Int) (p_4_a : OA) (p_4_l p_4_c : Nat) (w : World) (h : F_ref21_has x_0 x_1 x_2 x_3_a x_3_l x_3_c x_4_a x_4_l x_4_c p_0 p_1 p_2 p_3 p_4_a p_4_l p_4_c w fun v w' => R (.returned v) w') : CP N_ref21_has #[(.agg #[Iv x_0, .bool x_1, Iv x_2, .slice x_3_a x_3_l x_3_c, .slice x_4_a x_4_l x_4_c]), (.agg #[Iv p_0, Iv p_1, Iv p_2, Iv p_3, .slice p_4_a p_4_l p_4_c])] w R :=
 calls_of (k := TTk) (h := h_ref21_has) (f := 116) follows_ok Tryz.func116 (Eq.mpr (by kernel_rfl) h)

def h_ref21_merge : H := (.seq .reg (.seq .reg (.seq (.block (.loopG [] [12, 13, 14, 15, 16, 17, 18, 19, 20, 21] (.seq (.seq .reg (.cond .leaf .leaf)) (.block .reg)))) (.seq (.draw .no (.one 0 .pre (.one 1 .pre (.one 2 .pre (.one 3 .pre (.one 4 .pre (.one 5 .pre (.one 6 .pre (.one 7 .last .nil))))))))) (.seq .reg (.seq (.seq .reg (.cond .reg .leaf)) (.seq .reg .leaf)))))))
def F_ref21_merge (x_0 : Int) (x_1 : Bool) (x_2 : Int) (x_3_a : OA) (x_3_l x_3_c : Nat) (x_4_a : OA) (x_4_l x_4_c : Nat) (p_0 p_1 p_2 p_3 : Int) (p_4_a : OA) (p_4_l p_4_c : Nat) (w : World) (R : Value → WP) : Prop :=
 (kAlloc w #[(Iv x_0), (.bool x_1), (Iv x_2), (.slice x_3_a x_3_l x_3_c), (.slice x_4_a x_4_l x_4_c)] Ty_api_Partial fun aw bz =>
 (kAlloc bz #[(Iv p_0), (Iv p_1), (Iv p_2), (Iv p_3), (.slice p_4_a p_4_l p_4_c)] Ty_api_Piece fun v b0 =>
 (kAlloc b0 #[Iv (0 : Int), .bool false, Iv (0 : Int), .slice none 0 0, .slice none 0 0] Ty_api_Partial fun ax bb =>
 (kLd bb ⟨v, 3, none⟩ .i64 fun b8 =>
 (kLdS bb ⟨v, 4, none⟩ fun _ bu _ =>
 (kW .i64 (b8 + (bu : Int)) fun bc =>
 (∃ bv : Nat → WP, (∃ m' : Nat, bv m' bb) ∧
 (∀ (_ : Env)  (b6 : Nat) (ah : World), bv b6 ah →
 (kLdS ah ⟨aw, 3, none⟩ fun _ bm _ =>
 (bsplit (decide ((bm : Int) < bc))
 ((kLdS ah ⟨aw, 3, none⟩ fun bd bn bi =>
 (kAlloc ah #[(.int .u8 (0 : Int))] Ty_uint8 fun bw b1 =>
 (AppP Tryz.prog #[Ty_S_uint8, Ty_S_uint8] Ty_S_uint8 #[(.slice bd bn bi), (.slice (some ⟨bw, 0, none⟩) 1 1)] b1 fun be bo bj b2 =>
 (kSet b2 ⟨aw, 3, none⟩ (.slice be bo bj) fun b3 =>
 (∃ m' : Nat, m' < b6 ∧ bv m' b3))))))
 ((kDrew ah fun ay =>
 (kLdS ay ⟨aw, 3, none⟩ fun bf av au =>
 (kLd ay ⟨v, 3, none⟩ .i64 fun ai =>
 ((0 ≤ ai ∧ ai ≤ ((av : Nat) : Int)) ∧ (kLdS ay ⟨v, 4, none⟩ fun bg bp bk =>
 (CopyP Tryz.prog #[Ty_S_uint8, Ty_S_uint8] Ty_int #[(.slice (slAddr au (ai.toNat) 1 bf) (av - ai.toNat) (au - ai.toNat)), (.slice bg bp bk)] ay fun _ az =>
 (kLdS az ⟨aw, 4, none⟩ fun bh bq bl =>
 (kLd az ⟨v, 0, none⟩ .i64 fun b4 =>
 (kLd az ⟨v, 3, none⟩ .i64 fun b5 =>
 (CP N_ref18_Union #[(.slice bh bq bl), (.agg #[Iv b4, Iv b5, Iv bc])] az fun bx bt =>
 ∃ a3 : OA, ∃ a5 a4 : Nat, ∃ b7 : Int, bx = .returned (.tuple #[(.slice a3 a5 a4), (Iv b7)]) ∧
 (kSet bt ⟨aw, 4, none⟩ (.slice a3 a5 a4) fun a6 =>
 (∃ aj am ap ba : Int, ∃ m : OA, ∃ s p : Nat, cellsAt a6 ⟨v, 0, none⟩ 0 [(Iv aj), (Iv am), (Iv ap), (Iv ba), (.slice m s p)] ∧
 (CP N_ref21_ends #[(.agg #[Iv aj, Iv am, Iv ap, Iv ba, .slice m s p])] a6 fun br ag =>
 ∃ bs : Bool, br = .returned (.bool bs) ∧
 (bsplit bs
 ((kSet ag ⟨aw, 2, none⟩ (Iv bc) fun a7 =>
 (∃ ak : Int, ∃ an : Bool, ∃ aq : Int, ∃ g : OA, ∃ k i : Nat, ∃ n : OA, ∃ t q : Nat, cellsAt a7 ⟨aw, 0, none⟩ 0 [(Iv ak), (.bool an), (Iv aq), (.slice g k i), (.slice n t q)] ∧
 (sxStore a7 ⟨ax, 0, none⟩ 0 [(Iv ak), (.bool an), (Iv aq), (.slice g k i), (.slice n t q)] fun a8 =>
 (∃ a0 : Int, ∃ a1 : Bool, ∃ a2 : Int, ∃ x : OA, ∃ z y : Nat, ∃ aa : OA, ∃ ac ab : Nat, cellsAt a8 ⟨ax, 0, none⟩ 0 [(Iv a0), (.bool a1), (Iv a2), (.slice x z y), (.slice aa ac ab)] ∧
 R (.agg #[Iv a0, .bool a1, Iv a2, .slice x z y, .slice aa ac ab]) a8)))))
 ((∃ al : Int, ∃ ao : Bool, ∃ ar : Int, ∃ h : OA, ∃ l j : Nat, ∃ o : OA, ∃ u r : Nat, cellsAt ag ⟨aw, 0, none⟩ 0 [(Iv al), (.bool ao), (Iv ar), (.slice h l j), (.slice o u r)] ∧
 (sxStore ag ⟨ax, 0, none⟩ 0 [(Iv al), (.bool ao), (Iv ar), (.slice h l j), (.slice o u r)] fun a9 =>
 (∃ ad : Int, ∃ ae : Bool, ∃ af : Int, ∃ a : OA, ∃ c b : Nat, ∃ d : OA, ∃ f e : Nat, cellsAt a9 ⟨ax, 0, none⟩ 0 [(Iv ad), (.bool ae), (Iv af), (.slice a c b), (.slice d f e)] ∧
 R (.agg #[Iv ad, .bool ae, Iv af, .slice a c b, .slice d f e]) a9)))))))))))))))))))))))))))))
theorem F_ref21_merge_ok {R : EP} (x_0 : Int) (x_1 : Bool) (x_2 : Int) (x_3_a : OA) (x_3_l x_3_c : Nat) (x_4_a : OA) (x_4_l x_4_c : Nat) (p_0 p_1 p_2 p_3 : Int) (p_4_a : OA) (p_4_l p_4_c : Nat) (w : World) (h : F_ref21_merge x_0 x_1 x_2 x_3_a x_3_l x_3_c x_4_a x_4_l x_4_c p_0 p_1 p_2 p_3 p_4_a p_4_l p_4_c w fun v w' => R (.returned v) w') : CP N_ref21_merge #[(.agg #[Iv x_0, .bool x_1, Iv x_2, .slice x_3_a x_3_l x_3_c, .slice x_4_a x_4_l x_4_c]), (.agg #[Iv p_0, Iv p_1, Iv p_2, Iv p_3, .slice p_4_a p_4_l p_4_c])] w R :=
 calls_of (k := TTk) (h := h_ref21_merge) (f := 117) follows_ok Tryz.func117 (Eq.mpr (by kernel_rfl) h)

def h_ref21_start : H := (.seq .reg (.cut [] [3, 4, 5, 6, 7, 8, 9, 10, 11, 12, 13, 14, 15, 16, 17, 18, 19, 20, 21, 22, 23, 24, 25] (.seq (.draw .blk (.one 0 .pre (.one 1 .pre (.one 2 .pre (.one 3 .pre (.one 4 .pre (.one 5 .pre (.one 6 .pre (.one 7 .keep (.one 8 .stable (.one 9 .stable (.one 10 .stable (.one 11 .stable (.one 12 .stable (.one 14 .stable (.one 15 .stable (.one 16 .stable (.one 13 .keep (.one 17 .keep (.one 18 .stable (.one 19 .stable (.one 20 .stable .nil)))))))))))))))))))))) (.cond .reg .leaf)) (.seq (.seq .reg (.cond .reg .leaf)) (.seq .reg .leaf))))
def F_ref21_start (r_0 r_1 r_2 r_3 r_4 r_5 r_6 r_7 r_8 r_9 r_10 r_11 : Int) (r_12 : Bool) (r_13_a : OA) (r_13_l r_13_c : Nat) (w : World) (R : Value → WP) : Prop :=
 (kAlloc w #[(Iv r_0), (Iv r_1), (Iv r_2), (Iv r_3), (Iv r_4), (Iv r_5), (Iv r_6), (Iv r_7), (Iv r_8), (Iv r_9), (Iv r_10), (Iv r_11), (.bool r_12), (.slice r_13_a r_13_l r_13_c)] Ty_api_Receiver fun b d9 =>
 (kAlloc d9 #[Iv (0 : Int), Iv (0 : Int), Iv (0 : Int), Iv (0 : Int), Iv (0 : Int), Iv (0 : Int), Iv (0 : Int), Iv (0 : Int), Iv (0 : Int), Iv (0 : Int), Iv (0 : Int), Iv (0 : Int), .bool false, .slice none 0 0] Ty_api_Receiver fun a5 ea =>
 (∃ d0 : WP,
 (∀ (_ : Env)  (a : World), d0 a →
 (kLd a ⟨b, 9, none⟩ .i64 fun eh =>
 (bsplit (decide (eh = (-1 : Int)))
 ((kLd a ⟨b, 6, none⟩ .i64 fun ei =>
 (kLd a ⟨b, 7, none⟩ .i64 fun ej =>
 (bsplit (!decide (ei = ej))
 ((kLd a ⟨b, 7, none⟩ .i64 fun ek =>
 (kLd a ⟨b, 3, none⟩ .i64 fun el =>
 (kSet a ⟨b, 9, none⟩ (Iv ek) fun d6 =>
 (kSet d6 ⟨b, 10, none⟩ (Iv el) fun di =>
 (∃ b3 cb cg cl cq cv c0 c5 da df aq ax : Int, ∃ a2 : Bool, ∃ o : OA, ∃ z t : Nat, cellsAt di ⟨b, 0, none⟩ 0 [(Iv b3), (Iv cb), (Iv cg), (Iv cl), (Iv cq), (Iv cv), (Iv c0), (Iv c5), (Iv da), (Iv df), (Iv aq), (Iv ax), (.bool a2), (.slice o z t)] ∧
 (sxStore di ⟨a5, 0, none⟩ 0 [(Iv b3), (Iv cb), (Iv cg), (Iv cl), (Iv cq), (Iv cv), (Iv c0), (Iv c5), (Iv da), (Iv df), (Iv aq), (Iv ax), (.bool a2), (.slice o z t)] fun dj =>
 (∃ a6 a9 bc bf bi bl bo br bu bx af ai : Int, ∃ al : Bool, ∃ d : OA, ∃ j g : Nat, cellsAt dj ⟨a5, 0, none⟩ 0 [(Iv a6), (Iv a9), (Iv bc), (Iv bf), (Iv bi), (Iv bl), (Iv bo), (Iv br), (Iv bu), (Iv bx), (Iv af), (Iv ai), (.bool al), (.slice d j g)] ∧
 R (.agg #[Iv a6, Iv a9, Iv bc, Iv bf, Iv bi, Iv bl, Iv bo, Iv br, Iv bu, Iv bx, Iv af, Iv ai, .bool al, .slice d j g]) dj))))))))
 ((∃ b4 cc ch cm cr cw c1 c6 db dg ar ay : Int, ∃ a3 : Bool, ∃ p : OA, ∃ aa u : Nat, cellsAt a ⟨b, 0, none⟩ 0 [(Iv b4), (Iv cc), (Iv ch), (Iv cm), (Iv cr), (Iv cw), (Iv c1), (Iv c6), (Iv db), (Iv dg), (Iv ar), (Iv ay), (.bool a3), (.slice p aa u)] ∧
 (sxStore a ⟨a5, 0, none⟩ 0 [(Iv b4), (Iv cc), (Iv ch), (Iv cm), (Iv cr), (Iv cw), (Iv c1), (Iv c6), (Iv db), (Iv dg), (Iv ar), (Iv ay), (.bool a3), (.slice p aa u)] fun dk =>
 (∃ a7 ba bd bg bj bm bp bs bv bz ag aj : Int, ∃ am : Bool, ∃ e : OA, ∃ k h : Nat, cellsAt dk ⟨a5, 0, none⟩ 0 [(Iv a7), (Iv ba), (Iv bd), (Iv bg), (Iv bj), (Iv bm), (Iv bp), (Iv bs), (Iv bv), (Iv bz), (Iv ag), (Iv aj), (.bool am), (.slice e k h)] ∧
 R (.agg #[Iv a7, Iv ba, Iv bd, Iv bg, Iv bj, Iv bm, Iv bp, Iv bs, Iv bv, Iv bz, Iv ag, Iv aj, .bool am, .slice e k h]) dk))))))))
 ((∃ b5 cd ci cn cs cx c2 c7 dc dh au az : Int, ∃ a4 : Bool, ∃ q : OA, ∃ ab v : Nat, cellsAt a ⟨b, 0, none⟩ 0 [(Iv b5), (Iv cd), (Iv ci), (Iv cn), (Iv cs), (Iv cx), (Iv c2), (Iv c7), (Iv dc), (Iv dh), (Iv au), (Iv az), (.bool a4), (.slice q ab v)] ∧
 (sxStore a ⟨a5, 0, none⟩ 0 [(Iv b5), (Iv cd), (Iv ci), (Iv cn), (Iv cs), (Iv cx), (Iv c2), (Iv c7), (Iv dc), (Iv dh), (Iv au), (Iv az), (.bool a4), (.slice q ab v)] fun dl =>
 (∃ a8 bb be bh bk bn bq bt bw b0 ah ak : Int, ∃ an : Bool, ∃ f : OA, ∃ l i : Nat, cellsAt dl ⟨a5, 0, none⟩ 0 [(Iv a8), (Iv bb), (Iv be), (Iv bh), (Iv bk), (Iv bn), (Iv bq), (Iv bt), (Iv bw), (Iv b0), (Iv ah), (Iv ak), (.bool an), (.slice f l i)] ∧
 R (.agg #[Iv a8, Iv bb, Iv be, Iv bh, Iv bk, Iv bn, Iv bq, Iv bt, Iv bw, Iv b0, Iv ah, Iv ak, .bool an, .slice f l i]) dl))))))) ∧
 (kDrew ea fun c =>
 (∃ dx : Nat → Prop,
 (kLd c ⟨b, 9, none⟩ .i64 fun en =>
 (bsplit (!decide (en = (-1 : Int)))
 ((∃ dm dn dp dq dr ds dt du dv dw b6 b7 : Int, ∃ b8 : Bool, ∃ ac : OA, ∃ ae ad : Nat, cellsAt c ⟨b, 0, none⟩ 0 [(Iv dm), (Iv dn), (Iv dp), (Iv dq), (Iv dr), (Iv ds), (Iv dt), (Iv du), (Iv dv), (Iv dw), (Iv b6), (Iv b7), (.bool b8), (.slice ac ae ad)] ∧
 (kLd c ⟨b, 9, none⟩ .i64 fun ee =>
 (CP N_ref21_place #[(.agg #[Iv dm, Iv dn, Iv dp, Iv dq, Iv dr, Iv ds, Iv dt, Iv du, Iv dv, Iv dw, Iv b6, Iv b7, .bool b8, .slice ac ae ad]), (Iv ee)] c fun d8 dy =>
 ∃ em : Int, d8 = .returned (Iv em) ∧
 (KeepsB dx c dy ∧ (bsplit (decide (em = (0 : Int)))
 ((kSet dy ⟨b, 9, none⟩ (Iv (-1 : Int)) fun eb =>
 (kSet eb ⟨b, 10, none⟩ (Iv (0 : Int)) fun ec =>
 d0 ec)))
 ((dx b ∧
 (∃ b1 b9 ce cj co ct cy c3 c8 dd ao av : Int, ∃ a0 : Bool, ∃ m : OA, ∃ x r : Nat, cellsAt c ⟨b, 0, none⟩ 0 [(Iv b1), (Iv b9), (Iv ce), (Iv cj), (Iv co), (Iv ct), (Iv cy), (Iv c3), (Iv c8), (Iv dd), (Iv ao), (Iv av), (.bool a0), (.slice m x r)] ∧
 (dx b ∧
 (kLd c ⟨b, 9, none⟩ .i64 fun ef =>
 (dx b ∧
 (∃ b2 ca cf ck cp cu cz c4 c9 de ap aw : Int, ∃ a1 : Bool, ∃ n : OA, ∃ y s : Nat, cellsAt c ⟨b, 0, none⟩ 0 [(Iv b2), (Iv ca), (Iv cf), (Iv ck), (Iv cp), (Iv cu), (Iv cz), (Iv c4), (Iv c9), (Iv de), (Iv ap), (Iv aw), (.bool a1), (.slice n y s)] ∧
 (dx b ∧
 (kLd c ⟨b, 7, none⟩ .i64 fun eg =>
 (CP N_ref21_place #[(.agg #[Iv b1, Iv b9, Iv ce, Iv cj, Iv co, Iv ct, Iv cy, Iv c3, Iv c8, Iv dd, Iv ao, Iv av, .bool a0, .slice m x r]), (Iv ef)] dy fun d1 d7 =>
 ∃ d3 : Int, d1 = .returned (Iv d3) ∧
 (KeepsB dx c d7 ∧ (CP N_ref21_place #[(.agg #[Iv b2, Iv ca, Iv cf, Iv ck, Iv cp, Iv cu, Iv cz, Iv c4, Iv c9, Iv de, Iv ap, Iv aw, .bool a1, .slice n y s]), (Iv eg)] d7 fun d2 dz =>
 ∃ d4 : Int, d2 = .returned (Iv d4) ∧
 (KeepsB dx c dz ∧ (bsplit (decide (d3 > d4))
 ((kSet dz ⟨b, 9, none⟩ (Iv (-1 : Int)) fun ed =>
 (kSet ed ⟨b, 10, none⟩ (Iv (0 : Int)) fun d5 =>
 d0 d5)))
 (d0 dz)))))))))))))))))))))
 (d0 c))))))))
theorem F_ref21_start_ok {R : EP} (r_0 r_1 r_2 r_3 r_4 r_5 r_6 r_7 r_8 r_9 r_10 r_11 : Int) (r_12 : Bool) (r_13_a : OA) (r_13_l r_13_c : Nat) (w : World) (h : F_ref21_start r_0 r_1 r_2 r_3 r_4 r_5 r_6 r_7 r_8 r_9 r_10 r_11 r_12 r_13_a r_13_l r_13_c w fun v w' => R (.returned v) w') : CP N_ref21_start #[(.agg #[Iv r_0, Iv r_1, Iv r_2, Iv r_3, Iv r_4, Iv r_5, Iv r_6, Iv r_7, Iv r_8, Iv r_9, Iv r_10, Iv r_11, .bool r_12, .slice r_13_a r_13_l r_13_c])] w R :=
 calls_of (k := TTk) (h := h_ref21_start) (f := 118) follows_ok Tryz.func118 (Eq.mpr (by kernel_rfl) h)

def h_slices_Clone_SSbyte_Sbyte : H := (.seq .reg (.seq (.seq .reg (.cond (.seq .reg .leaf) .leaf)) (.seq .reg .leaf)))
def F_slices_Clone_SSbyte_Sbyte (s_a : OA) (s_l s_c : Nat) (w : World) (R : Value → WP) : Prop :=
 (bsplit s_a.isNone
 (R (.slice none 0 0) w)
 ((kAlloc w #[] Ty_S_uint8 fun f d =>
 (AppP Tryz.prog #[Ty_S_S_uint8, Ty_S_S_uint8] Ty_S_S_uint8 #[(.slice (some ⟨f, 0, none⟩) 0 0), (.slice s_a s_l s_c)] d fun a c b e =>
 R (.slice a c b) e))))
theorem F_slices_Clone_SSbyte_Sbyte_ok {R : EP} (s_a : OA) (s_l s_c : Nat) (w : World) (h : F_slices_Clone_SSbyte_Sbyte s_a s_l s_c w fun v w' => R (.returned v) w') : CP N_slices_Clone_SSbyte_Sbyte #[(.slice s_a s_l s_c)] w R :=
 calls_of (k := TTk) (h := h_slices_Clone_SSbyte_Sbyte) (f := 119) follows_ok Tryz.func119 (Eq.mpr (by kernel_rfl) h)

def h_receiver_partial_1 : H := (.seq .reg (.seq .reg .leaf))
def F_receiver_partial_1 (r_0 r_1 r_2 : Int) (cap0_b cap0_o : Nat) (w : World) (R : Value → WP) : Prop :=
 (kAlloc w #[(Iv r_0), (Iv r_1), (Iv r_2)] Ty_api_Range fun d a =>
 (kLd a ⟨d, 0, none⟩ .i64 fun e =>
 (kLd a ⟨cap0_b, cap0_o, none⟩ .i64 fun b =>
 (kLet (!decide (e = b)) fun c =>
 R (.bool c) a))))
theorem F_receiver_partial_1_ok {R : EP} (r_0 r_1 r_2 : Int) (cap0_b cap0_o : Nat) (w : World) (h : F_receiver_partial_1 r_0 r_1 r_2 cap0_b cap0_o w fun v w' => R (.returned v) w') : CP N_receiver_partial_1 #[(.agg #[Iv r_0, Iv r_1, Iv r_2]), (.pointer (some ⟨cap0_b, cap0_o, none⟩))] w R :=
 calls_of (k := TTk) (h := h_receiver_partial_1) (f := 120) follows_ok Tryz.func120 (Eq.mpr (by kernel_rfl) h)

def h_segment_Normal : H := (.seq .reg (.seq (.seq .reg (.block (.loop [(7, .p (.int .i64))] [2, 3, 4, 7, 8, 9, 10, 11, 12, 13, 14, 15, 16, 17, 18, 19, 20, 21, 22, 23, 24, 25, 26, 27, 28, 29, 30, 31, 32, 33, 34, 35, 36, 37] (.seq .reg (.seq (.cond .leaf .leaf) (.seq (.block (.seq .reg (.seq (.draw .no (.one 0 .stable (.one 1 .stable (.one 2 .stable (.one 3 .stable (.one 4 .stable (.one 5 .stable (.one 6 .stable (.one 7 .stable (.one 8 .stable (.one 9 .stable (.one 10 .stable (.one 11 .stable (.one 12 .stable (.one 13 .stable (.one 14 .stable (.one 15 .stable (.one 16 .stable (.one 17 .stable (.one 18 .stable (.one 19 .stable (.one 20 .stable (.one 21 .stable (.one 22 .stable (.one 23 .stable (.one 24 .stable .nil)))))))))))))))))))))))))) (.cond (.seq .reg .leaf) .leaf)))) .reg)))))) (.seq .reg .leaf)))
def F_segment_Normal (l_a : OA) (l_l _ : Nat) (w : World) (R : Value → WP) : Prop :=
 (∃ e : Int → Nat × (WP), (e (0 : Int)).2 w ∧
 (∀ (_ : Env) (c : Int) (d : World), (e c).2 d →
 (bsplit (decide (c < (l_l : Int)))
 ((kIx l_a l_l c fun t =>
 (∃ g h i : Int, cellsAt d (t.add (c.toNat * 3)) 0 [(Iv g), (Iv h), (Iv i)] ∧
 (kAlloc d #[Iv (0 : Int), Iv (0 : Int), Iv (0 : Int)] Ty_api_Range fun b m =>
 (sxStore m ⟨b, 0, none⟩ 0 [(Iv g), (Iv h), (Iv i)] fun n =>
 (kDrew n fun a =>
 (kLd a ⟨b, 1, none⟩ .i64 fun o =>
 (bsplit (decide (o < (0 : Int)))
 (R (.bool false) a)
 ((kLd a ⟨b, 1, none⟩ .i64 fun p =>
 (kLd a ⟨b, 2, none⟩ .i64 fun q =>
 (bsplit (decide (p ≥ q))
 (R (.bool false) a)
 ((bsplit (decide (c > (0 : Int)))
 ((kLd a ⟨b, 1, none⟩ .i64 fun r =>
 (kW .i64 (c - (1 : Int)) fun j =>
 (kIx l_a l_l j fun l =>
 (kLd a ((l.add (j.toNat * 3)).add 2) .i64 fun s =>
 (bsplit (decide (r ≤ s))
 (R (.bool false) a)
 ((kW .i64 (c + (1 : Int)) fun k =>
 ((e k).2 a ∧ (e k).1 < (e c).1)))))))))
 ((kW .i64 (c + (1 : Int)) fun f =>
 ((e f).2 a ∧ (e f).1 < (e c).1)))))))))))))))))
 (R (.bool true) d))))
theorem F_segment_Normal_ok {R : EP} (l_a : OA) (l_l l_c : Nat) (w : World) (h : F_segment_Normal l_a l_l l_c w fun v w' => R (.returned v) w') : CP N_segment_Normal #[(.slice l_a l_l l_c)] w R :=
 calls_of (k := TTk) (h := h_segment_Normal) (f := 121) follows_ok Tryz.func121 (Eq.mpr (by kernel_rfl) h)

def h_slices_ContainsFunc_Sapi_Range_api_Range : H := (.seq .reg (.seq .reg .leaf))
def F_slices_ContainsFunc_Sapi_Range_api_Range (s_a : OA) (s_l s_c f_g : Nat) (f_f : Array Value) (f_c : Array Value) (w : World) (R : Value → WP) : Prop :=
 (CP N_slices_IndexFunc_Sapi_Range_api_Range #[(.slice s_a s_l s_c), (.func (.func f_g) f_f f_c)] w fun a b =>
 ∃ c : Int, a = .returned (Iv c) ∧
 (kLet (decide (c ≥ (0 : Int))) fun d =>
 R (.bool d) b))
theorem F_slices_ContainsFunc_Sapi_Range_api_Range_ok {R : EP} (s_a : OA) (s_l s_c f_g : Nat) (f_f : Array Value) (f_c : Array Value) (w : World) (h : F_slices_ContainsFunc_Sapi_Range_api_Range s_a s_l s_c f_g f_f f_c w fun v w' => R (.returned v) w') : CP N_slices_ContainsFunc_Sapi_Range_api_Range #[(.slice s_a s_l s_c), (.func (.func f_g) f_f f_c)] w R :=
 calls_of (k := TTk) (h := h_slices_ContainsFunc_Sapi_Range_api_Range) (f := 122) follows_ok Tryz.func122 (Eq.mpr (by kernel_rfl) h)

def h_receiver_end : H := (.seq .reg (.seq (.seq .reg (.cond (.seq .reg .leaf) .leaf)) (.seq .reg .leaf)))
def F_receiver_end (l_a : OA) (l_l _ : Nat) (w : World) (R : Value → WP) : Prop :=
 (bsplit (decide ((l_l : Int) = (0 : Int)))
 (R (Iv (0 : Int)) w)
 ((kW .i64 ((l_l : Int) - (1 : Int)) fun b =>
 (kIx l_a l_l b fun c =>
 (kLd w ((c.add (b.toNat * 3)).add 2) .i64 fun a =>
 R (Iv a) w)))))
theorem F_receiver_end_ok {R : EP} (l_a : OA) (l_l l_c : Nat) (w : World) (h : F_receiver_end l_a l_l l_c w fun v w' => R (.returned v) w') : CP N_receiver_end #[(.slice l_a l_l l_c)] w R :=
 calls_of (k := TTk) (h := h_receiver_end) (f := 123) follows_ok Tryz.func123 (Eq.mpr (by kernel_rfl) h)

def h_segment_Gaps : H := (.seq .reg (.seq (.seq .reg (.cond (.seq .reg .leaf) .leaf)) (.cut [] [6, 7, 8, 16, 17, 18, 19, 20, 21, 22, 23, 24, 25, 26, 27, 28, 29, 30, 31, 32, 33] (.seq .reg (.seq .reg (.cond (.seq .reg .leaf) .leaf))) (.seq .reg (.seq .reg (.seq (.seq .reg (.block (.loop [(9, .p .slice), (10, .p (.int .i64)), (42, .p (.int .i64))] [9, 10, 12, 42, 43, 44, 45, 46, 47, 48, 49, 50, 51, 52, 53, 54, 55, 56, 57, 58, 59, 60] (.seq .reg (.seq (.cond .leaf .leaf) (.seq (.block (.seq .reg (.seq (.seq .reg (.cond .reg .leaf)) .reg))) .reg)))))) (.seq .reg .leaf)))))))
def F_segment_Gaps (l_a : OA) (l_l l_c : Nat) (sn length : Int) (w : World) (R : Value → WP) : Prop :=
 (CP N_segment_Normal #[(.slice l_a l_l l_c)] w fun ah f =>
 ∃ aq : Bool, ah = .returned (.bool aq) ∧
 (bsplit (!aq)
 (R (.tuple #[(.slice none 0 0), (Iv (4 : Int))]) f)
 ((∃ ad : WP,
 (∀ (_ : Env)  (x : World), ad x →
 (CP N_slices_Clone_Sapi_Range_api_Range #[(.slice l_a l_l l_c)] x fun v ai =>
 ∃ n : OA, ∃ p o : Nat, v = .returned (.slice n p o) ∧
 (kAlloc ai #[(Iv (0 : Int)), (Iv length), (Iv length)] Ty_api_Range fun ae aj =>
 (AppP Tryz.prog #[Ty_S_api_Range, Ty_S_api_Range] Ty_S_api_Range #[(.slice n p o), (.slice (some ⟨ae, 0, none⟩) 1 1)] aj fun ac u _ ak =>
 (∃ m : OA → Nat → Nat → Int → Int → Nat × (WP), (m none 0 0 (0 : Int) (0 : Int)).2 ak ∧
 (∀ (_ : Env) (a : OA) (c : Nat) (b : Nat) (d : Int) (e : Int) (l : World), (m a c b d e).2 l →
 (bsplit (decide (e < (u : Int)))
 ((kIx ac u e fun af =>
 (∃ r s t : Int, cellsAt l (af.add (e.toNat * 3)) 0 [(Iv r), (Iv s), (Iv t)] ∧
 (kAlloc l #[Iv (0 : Int), Iv (0 : Int), Iv (0 : Int)] Ty_api_Range fun g al =>
 (sxStore al ⟨g, 0, none⟩ 0 [(Iv r), (Iv s), (Iv t)] fun h =>
 (kLd h ⟨g, 1, none⟩ .i64 fun ao =>
 (bsplit (decide (ao > d))
 ((kLd h ⟨g, 1, none⟩ .i64 fun ap =>
 (kAlloc h #[(Iv sn), (Iv d), (Iv ap)] Ty_api_Range fun ag am =>
 (AppP Tryz.prog #[Ty_S_api_Range, Ty_S_api_Range] Ty_S_api_Range #[(.slice a c b), (.slice (some ⟨ag, 0, none⟩) 1 1)] am fun i k j q =>
 (kLd q ⟨g, 2, none⟩ .i64 fun y =>
 (kW .i64 (e + (1 : Int)) fun z =>
 ((m i k j y z).2 q ∧ (m i k j y z).1 < (m a c b d e).1)))))))
 ((kLd h ⟨g, 2, none⟩ .i64 fun aa =>
 (kW .i64 (e + (1 : Int)) fun ab =>
 ((m a c b aa ab).2 h ∧ (m a c b aa ab).1 < (m a c b d e).1)))))))))))
 (R (.tuple #[(.slice a c b), (Iv (0 : Int))]) l)))))))) ∧
 (bsplit (decide (length < (0 : Int)))
 (R (.tuple #[(.slice none 0 0), (Iv (3 : Int))]) f)
 ((bsplit (decide ((l_l : Int) > (0 : Int)))
 ((kW .i64 ((l_l : Int) - (1 : Int)) fun ar =>
 (kIx l_a l_l ar fun au =>
 (kLd f ((au.add (ar.toNat * 3)).add 2) .i64 fun an =>
 (bsplit (decide (length < an))
 (R (.tuple #[(.slice none 0 0), (Iv (3 : Int))]) f)
 (ad f))))))
 (ad f))))))))
theorem F_segment_Gaps_ok {R : EP} (l_a : OA) (l_l l_c : Nat) (sn length : Int) (w : World) (h : F_segment_Gaps l_a l_l l_c sn length w fun v w' => R (.returned v) w') : CP N_segment_Gaps #[(.slice l_a l_l l_c), (Iv sn), (Iv length)] w R :=
 calls_of (k := TTk) (h := h_segment_Gaps) (f := 124) follows_ok Tryz.func124 (Eq.mpr (by kernel_rfl) h)

def h_slices_ContainsFunc_Sbyte_byte : H := (.seq .reg (.seq .reg .leaf))
def F_slices_ContainsFunc_Sbyte_byte (s_a : OA) (s_l s_c f_g : Nat) (f_f : Array Value) (f_c : Array Value) (w : World) (R : Value → WP) : Prop :=
 (CP N_slices_IndexFunc_Sbyte_byte #[(.slice s_a s_l s_c), (.func (.func f_g) f_f f_c)] w fun a b =>
 ∃ c : Int, a = .returned (Iv c) ∧
 (kLet (decide (c ≥ (0 : Int))) fun d =>
 R (.bool d) b))
theorem F_slices_ContainsFunc_Sbyte_byte_ok {R : EP} (s_a : OA) (s_l s_c f_g : Nat) (f_f : Array Value) (f_c : Array Value) (w : World) (h : F_slices_ContainsFunc_Sbyte_byte s_a s_l s_c f_g f_f f_c w fun v w' => R (.returned v) w') : CP N_slices_ContainsFunc_Sbyte_byte #[(.slice s_a s_l s_c), (.func (.func f_g) f_f f_c)] w R :=
 calls_of (k := TTk) (h := h_slices_ContainsFunc_Sbyte_byte) (f := 125) follows_ok Tryz.func125 (Eq.mpr (by kernel_rfl) h)

def h_receiver_partial_2 : H := (.seq .reg (.seq .reg .leaf))
def F_receiver_partial_2 (c : Int) (w : World) (R : Value → WP) : Prop :=
 (kLet (!decide (c = (0 : Int))) fun a =>
 R (.bool a) w)
theorem F_receiver_partial_2_ok {R : EP} (c : Int) (w : World) (h : F_receiver_partial_2 c w fun v w' => R (.returned v) w') : CP N_receiver_partial_2 #[(.int .u8 c)] w R :=
 calls_of (k := TTk) (h := h_receiver_partial_2) (f := 126) follows_ok Tryz.func126 (Eq.mpr (by kernel_rfl) h)

def h_receiver_piece_known_1 : H := (.seq .reg (.seq .reg .leaf))
def F_receiver_piece_known_1 (r_0 r_1 r_2 : Int) (cap0_b cap0_o : Nat) (w : World) (R : Value → WP) : Prop :=
 (kAlloc w #[(Iv r_0), (Iv r_1), (Iv r_2)] Ty_api_Range fun f a =>
 (kLd a ⟨f, 1, none⟩ .i64 fun g =>
 (kLd a ⟨cap0_b, cap0_o + 3, none⟩ .i64 fun b =>
 (bsplit (decide (g ≤ b))
 ((kLd a ⟨f, 2, none⟩ .i64 fun c =>
 (kLd a ⟨cap0_b, cap0_o + 5, none⟩ .i64 fun d =>
 (kLet (decide (c ≥ d)) fun e =>
 R (.bool e) a))))
 (R (.bool false) a)))))
theorem F_receiver_piece_known_1_ok {R : EP} (r_0 r_1 r_2 : Int) (cap0_b cap0_o : Nat) (w : World) (h : F_receiver_piece_known_1 r_0 r_1 r_2 cap0_b cap0_o w fun v w' => R (.returned v) w') : CP N_receiver_piece_known_1 #[(.agg #[Iv r_0, Iv r_1, Iv r_2]), (.pointer (some ⟨cap0_b, cap0_o, none⟩))] w R :=
 calls_of (k := TTk) (h := h_receiver_piece_known_1) (f := 127) follows_ok Tryz.func127 (Eq.mpr (by kernel_rfl) h)

def h_slices_Concat_Sapi_Range_api_Range : H := (.seq .reg (.seq .reg (.seq (.seq .reg (.block (.loop [(3, .p (.int .i64)), (11, .p (.int .i64))] [3, 5, 11, 12, 13, 14, 15, 16, 17, 18, 19, 20, 21, 22] (.seq .reg (.seq (.cond .leaf .leaf) (.seq (.block (.seq .reg (.seq .reg (.seq .reg (.cond .reg .leaf))))) .reg)))))) (.seq .reg (.seq (.seq .reg (.block (.loop [(6, .p .slice), (27, .p (.int .i64))] [6, 8, 27, 28, 29, 30, 31, 32, 33, 34] (.seq .reg (.seq (.cond .leaf .leaf) (.seq (.block (.seq .reg .reg)) .reg)))))) (.seq .reg .leaf))))))
def F_slices_Concat_Sapi_Range_api_Range (slices_a : OA) (slices_l _ : Nat) (w : World) (R : Value → WP) : Prop :=
 (∃ t : Int → Int → Nat × (WP), (t (0 : Int) (0 : Int)).2 w ∧
 (∀ (_ : Env) (d : Int) (s : Int) (j : World), (t d s).2 j →
 (bsplit (decide (s < (slices_l : Int)))
 ((kIx slices_a slices_l s fun ac =>
 (kLdS j (ac.add (s.toNat * 1)) fun _ x _ =>
 (kW .i64 (d + (x : Int)) fun o =>
 (bsplit (decide (o < (0 : Int)))
 (False)
 ((kW .i64 (s + (1 : Int)) fun u =>
 ((t o u).2 j ∧ (t o u).1 < (t d s).1))))))))
 ((CP N_slices_Grow_Sapi_Range_api_Range #[(.slice none 0 0), (Iv d)] j fun z aa =>
 ∃ l : OA, ∃ n m : Nat, z = .returned (.slice l n m) ∧
 (∃ f : OA → Nat → Nat → Int → Nat × (WP), (f l n m (0 : Int)).2 aa ∧
 (∀ (_ : Env) (a : OA) (c : Nat) (b : Nat) (e : Int) (k : World), (f a c b e).2 k →
 (bsplit (decide (e < (slices_l : Int)))
 ((kIx slices_a slices_l e fun y =>
 (kLdS k (y.add (e.toNat * 1)) fun p r q =>
 (AppP Tryz.prog #[Ty_S_api_Range, Ty_S_api_Range] Ty_S_api_Range #[(.slice a c b), (.slice p r q)] k fun g i h ab =>
 (kW .i64 (e + (1 : Int)) fun v =>
 ((f g i h v).2 ab ∧ (f g i h v).1 < (f a c b e).1))))))
 (R (.slice a c b) k)))))))))
theorem F_slices_Concat_Sapi_Range_api_Range_ok {R : EP} (slices_a : OA) (slices_l slices_c : Nat) (w : World) (h : F_slices_Concat_Sapi_Range_api_Range slices_a slices_l slices_c w fun v w' => R (.returned v) w') : CP N_slices_Concat_Sapi_Range_api_Range #[(.slice slices_a slices_l slices_c)] w R :=
 calls_of (k := TTk) (h := h_slices_Concat_Sapi_Range_api_Range) (f := 129) follows_ok Tryz.func129 (Eq.mpr (by kernel_rfl) h)

def h_ref21_ends : H := (.seq .reg (.seq .reg .leaf))
def F_ref21_ends (p_0 p_1 p_2 p_3 : Int) (p_4_a : OA) (p_4_l p_4_c : Nat) (w : World) (R : Value → WP) : Prop :=
 (kAlloc w #[(Iv p_0), (Iv p_1), (Iv p_2), (Iv p_3), (.slice p_4_a p_4_l p_4_c)] Ty_api_Piece fun d a =>
 (kLd a ⟨d, 1, none⟩ .i64 fun e =>
 (bsplit (decide (e = (0 : Int)))
 (R (.bool true) a)
 ((kLd a ⟨d, 1, none⟩ .i64 fun b =>
 (kLet (decide (b = (2 : Int))) fun c =>
 R (.bool c) a))))))
theorem F_ref21_ends_ok {R : EP} (p_0 p_1 p_2 p_3 : Int) (p_4_a : OA) (p_4_l p_4_c : Nat) (w : World) (h : F_ref21_ends p_0 p_1 p_2 p_3 p_4_a p_4_l p_4_c w fun v w' => R (.returned v) w') : CP N_ref21_ends #[(.agg #[Iv p_0, Iv p_1, Iv p_2, Iv p_3, .slice p_4_a p_4_l p_4_c])] w R :=
 calls_of (k := TTk) (h := h_ref21_ends) (f := 130) follows_ok Tryz.func130 (Eq.mpr (by kernel_rfl) h)

def h_ref18_Union : H := (.seq .reg (.cut [] [4, 5, 9, 10, 11, 12, 13, 14, 15, 16, 17] (.seq .reg (.cond (.seq .reg .leaf) .leaf)) (.seq .reg (.seq .reg (.cut [(6, .p .slice), (7, .p (.int .i64))] [6, 7, 18, 19, 20, 21, 22, 23, 24, 25, 26, 27, 28, 29, 30, 31, 32, 33, 34, 35, 36, 37, 38, 39, 40, 41, 42, 43, 44, 45, 46, 47, 48, 49] (.block (.loop [(6, .p .slice), (7, .p (.int .i64))] [6, 7, 18, 19, 20, 21, 22, 23, 24, 25, 26, 27, 28, 29, 30, 31, 32, 33, 34, 35, 36, 37, 38, 39, 40, 41, 42, 43, 44, 45, 46, 47, 48, 49] (.cut [] [18, 19, 20, 21, 22, 23, 24, 25, 26, 27, 28, 29, 30, 31] (.seq (.draw .no (.one 0 .stable (.one 1 .stable (.one 2 .stable (.one 3 .stable (.one 4 .stable (.one 5 .stable (.one 6 .stable (.one 7 .stable (.one 8 .stable (.one 9 .stable (.one 10 .stable (.one 11 .stable (.one 12 .stable (.one 13 .stable .nil))))))))))))))) (.cond .leaf .leaf)) (.block (.seq (.draw .blk (.one 0 .stable (.one 1 .pre (.one 2 .pre (.one 3 .pre (.one 4 .pre (.one 5 .pre (.one 6 .pre (.one 7 .pre (.one 8 .pre (.one 9 .pre (.one 10 .pre (.one 11 .pre (.one 12 .pre (.one 13 .keep (.one 14 .keep (.one 15 .keep (.one 16 .stable .nil)))))))))))))))))) .reg))))) (.seq .reg (.cut [(7, .p (.int .i64))] [7, 51, 52, 53, 54, 55, 56, 57, 58, 59, 60, 61, 62, 63, 64, 65, 66, 67, 68, 69, 70, 71, 72, 73, 74, 75, 76, 77, 78, 79, 80, 81, 82, 83, 84] (.block (.loop [(7, .p (.int .i64))] [7, 51, 52, 53, 54, 55, 56, 57, 58, 59, 60, 61, 62, 63, 64, 65, 66, 67, 68, 69, 70, 71, 72, 73, 74, 75, 76, 77, 78, 79, 80, 81, 82, 83, 84] (.cut [] [51, 52, 53, 54, 55, 56, 57, 58, 59, 60, 61, 62, 63, 64] (.seq (.draw .no (.one 0 .stable (.one 1 .stable (.one 2 .stable (.one 3 .stable (.one 4 .stable (.one 5 .stable (.one 6 .stable (.one 7 .stable (.one 8 .stable (.one 9 .stable (.one 10 .stable (.one 11 .stable (.one 12 .stable (.one 13 .stable .nil))))))))))))))) (.cond .leaf .leaf)) (.block (.seq (.draw .blk (.one 0 .pre (.one 1 .pre (.one 2 .pre (.one 3 .pre (.one 4 .pre (.one 5 .pre (.one 6 .pre (.one 7 .pre (.one 8 .pre (.one 9 .pre (.one 10 .stable (.one 11 .stable (.one 12 .stable (.one 13 .stable (.one 14 .stable (.one 15 .stable (.one 16 .pre (.one 17 .keep (.one 18 .stable (.one 19 .last .nil))))))))))))))))))))) .reg))))) (.seq .reg (.seq (.block (.loop [(6, .p .slice), (7, .p (.int .i64))] [6, 7, 89, 90, 91, 92, 93, 94, 95, 96, 97, 98, 99, 100, 101, 102, 103, 104, 105, 106, 107, 108, 109, 110] (.seq (.seq .reg (.cond .leaf .leaf)) (.block (.seq (.draw .blk (.one 0 .stable (.one 1 .pre (.one 2 .pre (.one 3 .pre (.one 4 .pre (.one 5 .pre (.one 6 .pre (.one 7 .pre (.one 8 .pre (.one 9 .pre (.one 10 .pre (.one 11 .pre (.one 12 .pre (.one 13 .keep (.one 14 .keep (.one 15 .keep (.one 16 .stable .nil)))))))))))))))))) .reg))))) (.seq .reg .leaf))))))))))
def F_ref18_Union (l_a : OA) (l_l l_c : Nat) (r_0 r_1 r_2 : Int) (w : World) (R : Value → WP) : Prop :=
 (kAlloc w #[(Iv r_0), (Iv r_1), (Iv r_2)] Ty_api_Range fun bb ca =>
 (∃ ci : WP,
 (∀ (_ : Env)  (br : World), ci br →
 (∃ a0 : OA → Nat → Nat → Int → WP,
 (∀ (_ : Env) (k : OA) (m : Nat) (l : Nat) (bi : Int) (t : World), a0 k m l bi t →
 (∃ y aa ac : Int, cellsAt t ⟨bb, 0, none⟩ 0 [(Iv y), (Iv aa), (Iv ac)] ∧
 (kAlloc t #[Iv (0 : Int), Iv (0 : Int), Iv (0 : Int)] Ty_api_Range fun p bl =>
 (sxStore bl ⟨p, 0, none⟩ 0 [(Iv y), (Iv aa), (Iv ac)] fun bm =>
 (∃ a1 : Int → WP,
 (∀ (_ : Env) (bj : Int) (u : World), a1 bj u →
 (∃ z ab ad : Int, cellsAt u ⟨p, 0, none⟩ 0 [(Iv z), (Iv ab), (Iv ad)] ∧
 (kAlloc u #[(Iv z), (Iv ab), (Iv ad)] Ty_api_Range fun bc bo =>
 (AppP Tryz.prog #[Ty_S_api_Range, Ty_S_api_Range] Ty_S_api_Range #[(.slice k m l), (.slice (some ⟨bc, 0, none⟩) 1 1)] bo fun a4 a6 a5 bp =>
 (∃ s : OA → Nat → Nat → Int → Nat × (WP), (s a4 a6 a5 bj).2 bp ∧
 (∀ (_ : Env) (b : OA) (f : Nat) (d : Nat) (j : Int) (v : World), (s b f d j).2 v →
 (bsplit (decide (j < (l_l : Int)))
 ((kDrew v fun h =>
 (∃ a2 : Nat → Prop,
 (kLd h ⟨bb, 0, none⟩ .i64 fun bu =>
 (kIx l_a l_l j fun bd =>
 (kLd h ((bd.add (j.toNat * 3)).add 1) .i64 fun bv =>
 (kIx l_a l_l j fun be =>
 (kLd h ((be.add (j.toNat * 3)).add 2) .i64 fun bw =>
 (KeepsB a2 h h ∧ (kAlloc h #[(Iv bu), (Iv bv), (Iv bw)] Ty_api_Range fun bf am =>
 (KeepsB a2 h am ∧ (AppP Tryz.prog #[Ty_S_api_Range, Ty_S_api_Range] Ty_S_api_Range #[(.slice b f d), (.slice (some ⟨bf, 0, none⟩) 1 1)] am fun ae ag af an =>
 (KeepsB a2 h an ∧ (kW .i64 (j + (1 : Int)) fun ar =>
 ((s ae ag af ar).2 an ∧ (s ae ag af ar).1 < (s b f d j).1)))))))))))))))
 (R (.tuple #[(.slice b f d), (Iv (0 : Int))]) v)))))))) ∧
 (∃ r : Int → Nat × (WP), (r bi).2 bm ∧
 (∀ (_ : Env) (g : Int) (aj : World), (r g).2 aj →
 (∃ a9 : WP,
 (∀ (_ : Env)  (ak : World), a9 ak →
 (kDrew ak fun i =>
 (∃ ba : Nat → Prop,
 (kLd i ⟨p, 1, none⟩ .i64 fun bz =>
 (kIx l_a l_l g fun b8 =>
 (kLd i ((b8.add (g.toNat * 3)).add 1) .i64 fun b0 =>
 (kLd i ⟨p, 2, none⟩ .i64 fun ao =>
 (kIx l_a l_l g fun bg =>
 (ba ((bg.add (g.toNat * 3)).add 2).block ∧
 (kLd i ((bg.add (g.toNat * 3)).add 2) .i64 fun ap =>
 (kSet i ⟨p, 1, none⟩ (Iv (if b0 < bz then b0 else bz)) fun al =>
 (KeepsB ba i al ∧ (kSet al ⟨p, 2, none⟩ (Iv (if ap > ao then ap else ao)) fun bn =>
 (kW .i64 (g + (1 : Int)) fun aq =>
 ((r aq).2 bn ∧ (r aq).1 < (r g).1))))))))))))))) ∧
 (kDrew aj fun n =>
 (bsplit (decide (g < (l_l : Int)))
 ((kIx l_a l_l g fun b7 =>
 (kLd n ((b7.add (g.toNat * 3)).add 1) .i64 fun cg =>
 (kLd n ⟨p, 2, none⟩ .i64 fun ch =>
 (bsplit (decide (cg ≤ ch))
 (a9 n)
 (a1 g n))))))
 (a1 g n))))))))))) ∧
 (∃ a7 : OA → Nat → Nat → Int → Nat × (WP), (a7 none 0 0 (0 : Int)).2 br ∧
 (∀ (_ : Env) (a : OA) (e : Nat) (c : Nat) (q : Int) (bs : World), (a7 a e c q).2 bs →
 (∃ a8 : WP,
 (∀ (_ : Env)  (bt : World), a8 bt →
 (kDrew bt fun o =>
 (∃ b1 : Nat → Prop,
 (kLd o ⟨bb, 0, none⟩ .i64 fun cd =>
 (kIx l_a l_l q fun b4 =>
 (kLd o ((b4.add (q.toNat * 3)).add 1) .i64 fun ce =>
 (kIx l_a l_l q fun b5 =>
 (kLd o ((b5.add (q.toNat * 3)).add 2) .i64 fun cf =>
 (KeepsB b1 o o ∧ (kAlloc o #[(Iv cd), (Iv ce), (Iv cf)] Ty_api_Range fun b6 ah =>
 (KeepsB b1 o ah ∧ (AppP Tryz.prog #[Ty_S_api_Range, Ty_S_api_Range] Ty_S_api_Range #[(.slice a e c), (.slice (some ⟨b6, 0, none⟩) 1 1)] ah fun ax az ay ai =>
 (KeepsB b1 o ai ∧ (kW .i64 (q + (1 : Int)) fun bx =>
 ((a7 ax az ay bx).2 ai ∧ (a7 ax az ay bx).1 < (a7 a e c q).1))))))))))))))) ∧
 (kDrew bs fun x =>
 (bsplit (decide (q < (l_l : Int)))
 ((kIx l_a l_l q fun b3 =>
 (kLd x ((b3.add (q.toNat * 3)).add 2) .i64 fun ck =>
 (kLd x ⟨bb, 1, none⟩ .i64 fun cc =>
 (bsplit (decide (ck < cc))
 (a8 x)
 (a0 a e c q x))))))
 (a0 a e c q x)))))))) ∧
 (CP N_ref18_Normal #[(.slice l_a l_l l_c)] ca fun b9 a3 =>
 ∃ cj : Bool, b9 = .returned (.bool cj) ∧
 (bsplit (!cj)
 (R (.tuple #[(.slice none 0 0), (Iv (4 : Int))]) a3)
 ((∃ au av aw : Int, cellsAt a3 ⟨bb, 0, none⟩ 0 [(Iv au), (Iv av), (Iv aw)] ∧
 (kAlloc a3 #[(Iv au), (Iv av), (Iv aw)] Ty_api_Range fun b2 cb =>
 (CP N_ref18_Normal #[(.slice (some ⟨b2, 0, none⟩) 1 1)] cb fun bh bq =>
 ∃ bk : Bool, bh = .returned (.bool bk) ∧
 (bsplit (!bk)
 (R (.tuple #[(.slice none 0 0), (Iv (4 : Int))]) bq)
 (ci bq))))))))))
theorem F_ref18_Union_ok {R : EP} (l_a : OA) (l_l l_c : Nat) (r_0 r_1 r_2 : Int) (w : World) (h : F_ref18_Union l_a l_l l_c r_0 r_1 r_2 w fun v w' => R (.returned v) w') : CP N_ref18_Union #[(.slice l_a l_l l_c), (.agg #[Iv r_0, Iv r_1, Iv r_2])] w R :=
 calls_of (k := TTk) (h := h_ref18_Union) (f := 131) follows_ok Tryz.func131 (Eq.mpr (by kernel_rfl) h)

def h_slices_IndexFunc_Sapi_Range_api_Range : H := (.seq .reg (.seq (.seq .reg (.block (.loop [(8, .p (.int .i64))] [4, 5, 8, 9, 10, 11, 12, 13, 14, 15, 16, 17, 18] (.seq .reg (.seq (.cond .leaf .leaf) (.seq (.block (.seq .reg (.seq .reg (.cond (.seq .reg .leaf) .leaf)))) .reg)))))) (.seq .reg .leaf)))
def F_slices_IndexFunc_Sapi_Range_api_Range (s_a : OA) (s_l _ f_g : Nat) (f_f : Array Value) (f_c : Array Value) (w : World) (R : Value → WP) : Prop :=
 (∃ f : Int → Nat × (WP), (f (0 : Int)).2 w ∧
 (∀ (_ : Env) (e : Int) (a : World), (f e).2 a →
 (bsplit (decide (e < (s_l : Int)))
 ((kIx s_a s_l e fun k =>
 (∃ b c d : Int, cellsAt a (k.add (e.toNat * 3)) 0 [(Iv b), (Iv c), (Iv d)] ∧
 (okFn Tryz.prog f_g = true ∧ CP f_g (f_f ++ #[(.agg #[Iv b, Iv c, Iv d])] ++ f_c) a fun i g =>
 ∃ j : Bool, i = .returned (.bool j) ∧
 (bsplit j
 (R (Iv e) g)
 ((kW .i64 (e + (1 : Int)) fun h =>
 ((f h).2 g ∧ (f h).1 < (f e).1))))))))
 (R (Iv (-1 : Int)) a))))
theorem F_slices_IndexFunc_Sapi_Range_api_Range_ok {R : EP} (s_a : OA) (s_l s_c f_g : Nat) (f_f : Array Value) (f_c : Array Value) (w : World) (h : F_slices_IndexFunc_Sapi_Range_api_Range s_a s_l s_c f_g f_f f_c w fun v w' => R (.returned v) w') : CP N_slices_IndexFunc_Sapi_Range_api_Range #[(.slice s_a s_l s_c), (.func (.func f_g) f_f f_c)] w R :=
 calls_of (k := TTk) (h := h_slices_IndexFunc_Sapi_Range_api_Range) (f := 132) follows_ok Tryz.func132 (Eq.mpr (by kernel_rfl) h)

def h_slices_IndexFunc_Sbyte_byte : H := (.seq .reg (.seq (.seq .reg (.block (.loop [(8, .p (.int .i64))] [4, 5, 8, 9, 10, 11, 12, 13, 14, 15, 16, 17, 18] (.seq .reg (.seq (.cond .leaf .leaf) (.seq (.block (.seq .reg (.seq .reg (.cond (.seq .reg .leaf) .leaf)))) .reg)))))) (.seq .reg .leaf)))
def F_slices_IndexFunc_Sbyte_byte (s_a : OA) (s_l _ f_g : Nat) (f_f : Array Value) (f_c : Array Value) (w : World) (R : Value → WP) : Prop :=
 (∃ c : Int → Nat × (WP), (c (0 : Int)).2 w ∧
 (∀ (_ : Env) (b : Int) (a : World), (c b).2 a →
 (bsplit (decide (b < (s_l : Int)))
 ((kIx s_a s_l b fun i =>
 (kLd a (i.add (b.toNat * 1)) .u8 fun g =>
 (okFn Tryz.prog f_g = true ∧ CP f_g (f_f ++ #[(.int .u8 g)] ++ f_c) a fun f d =>
 ∃ h : Bool, f = .returned (.bool h) ∧
 (bsplit h
 (R (Iv b) d)
 ((kW .i64 (b + (1 : Int)) fun e =>
 ((c e).2 d ∧ (c e).1 < (c b).1))))))))
 (R (Iv (-1 : Int)) a))))
theorem F_slices_IndexFunc_Sbyte_byte_ok {R : EP} (s_a : OA) (s_l s_c f_g : Nat) (f_f : Array Value) (f_c : Array Value) (w : World) (h : F_slices_IndexFunc_Sbyte_byte s_a s_l s_c f_g f_f f_c w fun v w' => R (.returned v) w') : CP N_slices_IndexFunc_Sbyte_byte #[(.slice s_a s_l s_c), (.func (.func f_g) f_f f_c)] w R :=
 calls_of (k := TTk) (h := h_slices_IndexFunc_Sbyte_byte) (f := 133) follows_ok Tryz.func133 (Eq.mpr (by kernel_rfl) h)

def h_slices_Grow_Sapi_Range_api_Range : H := (.seq .reg (.cut [] [5, 6, 7] (.seq .reg (.cond .reg .leaf)) (.seq (.seq .reg (.seq .reg (.cond .reg .leaf))) (.seq .reg .leaf))))
def F_slices_Grow_Sapi_Range_api_Range (s_a : OA) (s_l s_c : Nat) (n : Int) (w : World) (R : Value → WP) : Prop :=
 (∃ f : WP,
 (∀ (_ : Env)  (b : World), f b →
 (kW .i64 ((s_c : Int) - (s_l : Int)) fun g =>
 (kW .i64 (n - g) fun c =>
 (bsplit (decide (c > (0 : Int)))
 (((0 ≤ (s_c : Int) ∧ (s_c : Int) ≤ ((s_c : Nat) : Int)) ∧ (AppP Tryz.prog #[Ty_S_api_Range, Ty_int] Ty_S_api_Range #[(.slice (slAddr s_c 0 3 s_a) ((s_c : Int).toNat - 0) (s_c - 0)), (Iv c)] b fun d _ a e =>
 ((0 ≤ (s_l : Int) ∧ (s_l : Int) ≤ ((a : Nat) : Int)) ∧ R (.slice (slAddr a 0 3 d) ((s_l : Int).toNat - 0) (a - 0)) e))))
 (R (.slice s_a s_l s_c) b))))) ∧
 (bsplit (decide (n < (0 : Int)))
 (False)
 (f w)))
theorem F_slices_Grow_Sapi_Range_api_Range_ok {R : EP} (s_a : OA) (s_l s_c : Nat) (n : Int) (w : World) (h : F_slices_Grow_Sapi_Range_api_Range s_a s_l s_c n w fun v w' => R (.returned v) w') : CP N_slices_Grow_Sapi_Range_api_Range #[(.slice s_a s_l s_c), (Iv n)] w R :=
 calls_of (k := TTk) (h := h_slices_Grow_Sapi_Range_api_Range) (f := 135) follows_ok Tryz.func135 (Eq.mpr (by kernel_rfl) h)

end Go.Proofs.YtlgolgpellbnbaaGreat
