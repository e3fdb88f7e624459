import Derived.Test.YtmbppohkadmjgaaGreatBase
import Derived.KernelRfl
namespace Go.Proofs.YtmbppohkadmjgaaGreat
open Go.Sx Go.RowKit
set_option maxRecDepth 100000

def h_status_Decode : HD := (.seq .reg (.seq (.seq .reg (.cond (.seq .reg .leaf) .leaf)) (.dfr (.seq .reg (.seq .reg (.seq (.seq .reg (.block (.loop [(7, .p (.int .i64))] [7, 8, 9, 25, 26, 27, 28, 29, 30, 31, 32, 33, 34, 35, 36, 37, 38, 39, 40, 41, 42, 43, 44, 45, 46, 47, 48] (.seq (.seq .reg (.cond .leaf .leaf)) (.seq (.block (.seq .reg (.seq .reg (.seq (.seq .reg (.cond .reg .leaf)) .reg)))) .reg))))) (.seq (.seq .reg (.seq .reg (.cond (.seq .reg .leaf) .leaf))) (.seq .reg .leaf))))))))
def L_status_Decode (b : Nat) (b1 : Nat) (R : Value -> WP) (u_ : FrameMode) (w_ : World) : Prop :=
 okFn Tryz.prog N_status_Decode_1 = true /\ CallsD Tryz.prog N_status_Decode_1 #[(.pointer (some ⟨b, 0, none⟩)), (.pointer (some ⟨b1, 0, none⟩))] u_ w_ fun x_ u1_ w1_ => (∃ v, x_ = .returned v) /\ settle u1_ = .returning /\ (∃ r_01 : Int, ∃ r_1_a1 : OA, ∃ r_1_l1 : Nat, ∃ r_1_c1 : Nat, cellsAt w1_ ⟨b, 0, none⟩ 0 [(Iv r_01), (.slice r_1_a1 r_1_l1 r_1_c1)] /\
 (kLd w1_ ⟨b1, 0, none⟩ .i64 fun r2 =>
 R (.tuple #[(.agg #[Iv r_01, .slice r_1_a1 r_1_l1 r_1_c1]), (Iv r2)]) w1_))
def F_status_Decode (bits : Int) (b_a : OA) (b_l b_c : Nat) (w : World) (R : Value -> WP) : Prop :=
 (kAlloc w #[Iv (0 : Int), .slice none 0 0] Ty_api_Status fun b b8 =>
 (kAlloc b8 #[Iv (0 : Int)] Ty_api_Errno fun a b9 =>
 (CP N_counter_Bits #[(Iv bits)] b9 fun b6 br =>
 ∃ ce : Bool, b6 = .returned (.bool ce) /\
 (bsplit (!ce)
 ((sxStore br ⟨b, 0, none⟩ 0 [(Iv (0 : Int)), (.slice none 0 0)] fun ca =>
 (kSet ca ⟨a, 0, none⟩ (Iv (3 : Int)) fun az =>
 (∃ am : Int, ∃ f : OA, ∃ h g : Nat, cellsAt az ⟨b, 0, none⟩ 0 [(Iv am), (.slice f h g)] /\
 (kLd az ⟨a, 0, none⟩ .i64 fun b7 =>
 R (.tuple #[(.agg #[Iv am, .slice f h g]), (Iv b7)]) az)))))
 ((kAlloc br #[(.slice b_a b_l b_c)] Ty_status_reader fun o cb =>
 (CP N_status_reader_take #[(.pointer (some ⟨o, 0, none⟩)), (Iv (2 : Int))] cb fun af bw =>
 (∃ bb : Int, af = .returned (Iv bb) /\
 (kSet bw ⟨b, 0, none⟩ (Iv bb) fun cc =>
 (CP N_status_reader_take #[(.pointer (some ⟨o, 0, none⟩)), (Iv (1 : Int))] cc fun ag bx =>
 (∃ bc : Int, ag = .returned (Iv bc) /\
 (∃ y : Int -> Nat × (WP), (y bc).2 bx /\
 (∀ (_ : Env) (a9 : Int) (i : World), (y a9).2 i ->
 (bsplit (decide (a9 > (0 : Int)))
 ((CP N_status_reader_take #[(.pointer (some ⟨o, 0, none⟩)), (Iv (2 : Int))] i fun ah aq =>
 (∃ ay : Int, ah = .returned (Iv ay) /\
 (kLet (Int.fdiv ay (2 ^ 4)) fun cf =>
 (kAlloc aq #[Iv (0 : Int), Iv (0 : Int), Iv (0 : Int)] Ty_api_Range fun p bh =>
 (sxStore bh ⟨p, 0, none⟩ 0 [(Iv cf), (Iv (0 : Int)), (Iv (0 : Int))] fun j =>
 (kLet (bAnd .i64 ay (15 : Int)) fun cd =>
 (bsplit (decide (cd = (1 : Int)))
 ((CP N_status_reader_take #[(.pointer (some ⟨o, 0, none⟩)), (Iv (2 : Int))] j fun ai ar =>
 (∃ bd : Int, ai = .returned (Iv bd) /\
 (CP N_status_reader_take #[(.pointer (some ⟨o, 0, none⟩)), (Iv (2 : Int))] ar fun aj au =>
 (∃ be : Int, aj = .returned (Iv be) /\
 (kSet au ⟨p, 1, none⟩ (Iv bd) fun bi =>
 (kSet bi ⟨p, 2, none⟩ (Iv be) fun q =>
 (kLdS q ⟨b, 1, none⟩ fun b1 b3 b2 =>
 (∃ av aw ax : Int, cellsAt q ⟨p, 0, none⟩ 0 [(Iv av), (Iv aw), (Iv ax)] /\
 (kAlloc q #[(Iv av), (Iv aw), (Iv ax)] Ty_api_Range fun b4 bj =>
 (AppP Tryz.prog #[Ty_S_api_Range, Ty_S_api_Range] Ty_S_api_Range #[(.slice b1 b3 b2), (.slice (some ⟨b4, 0, none⟩) 1 1)] bj fun a0 a6 a3 bk =>
 (kSet bk ⟨b, 1, none⟩ (.slice a0 a6 a3) fun bl =>
 (kW .i64 (a9 - (1 : Int)) fun bz =>
 ((y bz).2 bl /\ (y bz).1 < (y a9).1)))))))))) \/
 (∃ ac : List PanicEntry, aj = .panicked ac /\ L_status_Decode b a R (.panicking ac) au))) \/
 (∃ ab : List PanicEntry, ai = .panicked ab /\ L_status_Decode b a R (.panicking ab) ar)))
 ((kLdS j ⟨b, 1, none⟩ fun a1 a7 a4 =>
 (∃ s v x : Int, cellsAt j ⟨p, 0, none⟩ 0 [(Iv s), (Iv v), (Iv x)] /\
 (kAlloc j #[(Iv s), (Iv v), (Iv x)] Ty_api_Range fun b5 bm =>
 (AppP Tryz.prog #[Ty_S_api_Range, Ty_S_api_Range] Ty_S_api_Range #[(.slice a1 a7 a4), (.slice (some ⟨b5, 0, none⟩) 1 1)] bm fun a2 a8 a5 bn =>
 (kSet bn ⟨b, 1, none⟩ (.slice a2 a8 a5) fun bo =>
 (kW .i64 (a9 - (1 : Int)) fun b0 =>
 ((y b0).2 bo /\ (y b0).1 < (y a9).1)))))))))))))) \/
 (∃ aa : List PanicEntry, ah = .panicked aa /\ L_status_Decode b a R (.panicking aa) aq)))
 ((∃ t : Int, ∃ l : OA, ∃ n m : Nat, cellsAt i ⟨b, 0, none⟩ 0 [(Iv t), (.slice l n m)] /\
 (CP N_status_Encode #[(Iv bits), (.agg #[Iv t, .slice l n m])] i fun ak r =>
 (∃ an : OA, ∃ ap ao : Nat, ∃ bf : Int, ak = .returned (.tuple #[(.slice an ap ao), (Iv bf)]) /\
 (bsplit (!decide (bf = (0 : Int)))
 ((sxStore r ⟨b, 0, none⟩ 0 [(Iv (0 : Int)), (.slice none 0 0)] fun bp =>
 (kSet bp ⟨a, 0, none⟩ (Iv (4 : Int)) fun bq =>
 L_status_Decode b a R .returning bq)))
 ((CP N_bytes_Equal #[(.slice an ap ao), (.slice b_a b_l b_c)] r fun al k =>
 (∃ bg : Bool, al = .returned (.bool bg) /\
 (bsplit (!bg)
 ((sxStore k ⟨b, 0, none⟩ 0 [(Iv (0 : Int)), (.slice none 0 0)] fun bs =>
 (kSet bs ⟨a, 0, none⟩ (Iv (4 : Int)) fun bt =>
 L_status_Decode b a R .returning bt)))
 ((∃ u : Int, ∃ c : OA, ∃ e d : Nat, cellsAt k ⟨b, 0, none⟩ 0 [(Iv u), (.slice c e d)] /\
 (sxStore k ⟨b, 0, none⟩ 0 [(Iv u), (.slice c e d)] fun bu =>
 (kSet bu ⟨a, 0, none⟩ (Iv (0 : Int)) fun bv =>
 L_status_Decode b a R .returning bv)))))) \/
 (∃ ae : List PanicEntry, al = .panicked ae /\ L_status_Decode b a R (.panicking ae) k))))) \/
 (∃ ad : List PanicEntry, ak = .panicked ad /\ L_status_Decode b a R (.panicking ad) r)))))))) \/
 (∃ z : List PanicEntry, ag = .panicked z /\ L_status_Decode b a R (.panicking z) bx)))) \/
 (∃ ba : List PanicEntry, af = .panicked ba /\ L_status_Decode b a R (.panicking ba) bw))))))))
theorem F_status_Decode_ok {R : EP} (bits : Int) (b_a : OA) (b_l b_c : Nat) (w : World) (h : F_status_Decode bits b_a b_l b_c w fun v w' => R (.returned v) w') : CP N_status_Decode #[(Iv bits), (.slice b_a b_l b_c)] w R :=
 calls_ofD (k := TTk) (h := h_status_Decode) (f := 52) follows_ok Tryz.func52 (Eq.mpr (by kernel_rfl) h)

def h_sender_Report : H := (sr (.cut [] ([5] ++ rg 15 12) sc (sr (.seq sc (sr (.seq sc (.cut [] (rg 50 25) (sr (.cond .reg .leaf)) (sr (.seq (sr (.block (.loop [(9, .p .slice), (81, .p (.int .i64))] ([9, 11, 12, 13, 14] ++ rg 81 41) (sr (.seq (.cond .leaf .leaf) (.seq (.block (sr (sr (.cut [] ([14] ++ rg 91 26) (.block (sr (.cond .leaf (sr (.cond (sr (sr (sr (.cond .reg .leaf)))) (sr (.cond .leaf .leaf))))))) .reg)))) .reg)))))) (sr (.seq (sr (.cond .reg .leaf)) sl)))))))))))
def F_sender_Report (x_0 x_1 x_2 x_3 x_4 x_5 x_6 x_7 : Int) (x_8_a : OA) (x_8_l x_8_c : Nat) (x_9 x_10 x_11 : Int) (x_12 : Bool) (r_0 : Int) (r_1_a : OA) (r_1_l r_1_c : Nat) (w : World) (R : Value -> WP) : Prop :=
 (kAlloc w #[(Iv x_0), (Iv x_1), (Iv x_2), (Iv x_3), (Iv x_4), (Iv x_5), (Iv x_6), (Iv x_7), (.slice x_8_a x_8_l x_8_c), (Iv x_9), (Iv x_10), (Iv x_11), (.bool x_12)] Ty_api_Sender fun hd hi =>
 (kAlloc hi #[(Iv r_0), (.slice r_1_a r_1_l r_1_c)] Ty_api_Status fun f6 hj =>
 (kAlloc hj #[Iv (0 : Int), Iv (0 : Int), Iv (0 : Int), Iv (0 : Int), Iv (0 : Int), Iv (0 : Int), Iv (0 : Int), Iv (0 : Int), .slice none 0 0, Iv (0 : Int), Iv (0 : Int), Iv (0 : Int), .bool false] Ty_api_Sender fun f gu =>
 (∃ ht : WP,
 (∀ (_ : Env)  (f9 : World), ht f9 ->
 (∃ d1 d9 ed el et ex e1 e5 : Int, ∃ a1 : OA, ∃ a9 a5 : Nat, ∃ e9 bx b2 : Int, ∃ b6 : Bool, cellsAt f9 ⟨hd, 0, none⟩ 0 [(Iv d1), (Iv d9), (Iv ed), (Iv el), (Iv et), (Iv ex), (Iv e1), (Iv e5), (.slice a1 a9 a5), (Iv e9), (Iv bx), (Iv b2), (.bool b6)] /\
 (CP N_sender_begin #[(.agg #[Iv d1, Iv d9, Iv ed, Iv el, Iv et, Iv ex, Iv e1, Iv e5, .slice a1 a9 a5, Iv e9, Iv bx, Iv b2, .bool b6])] f9 fun gd ga =>
 ∃ d : OA, ∃ f8 : Int, gd = .returned (.tuple #[(.pointer d), (Iv f8)]) /\
 (bsplit (!decide (f8 = (0 : Int)))
 ((sxStore ga ⟨f, 0, none⟩ 0 [(Iv (0 : Int)), (Iv (0 : Int)), (Iv (0 : Int)), (Iv (0 : Int)), (Iv (0 : Int)), (Iv (0 : Int)), (Iv (0 : Int)), (Iv (0 : Int)), (.slice none 0 0), (Iv (0 : Int)), (Iv (0 : Int)), (Iv (0 : Int)), (.bool false)] fun fu =>
 (∃ ci cq cv c0 c5 da df dk : Int, ∃ i : OA, ∃ s n : Nat, ∃ dq bd bi : Int, ∃ bn : Bool, cellsAt fu ⟨f, 0, none⟩ 0 [(Iv ci), (Iv cq), (Iv cv), (Iv c0), (Iv c5), (Iv da), (Iv df), (Iv dk), (.slice i s n), (Iv dq), (Iv bd), (Iv bi), (.bool bn)] /\
 R (.tuple #[(.agg #[Iv ci, Iv cq, Iv cv, Iv c0, Iv c5, Iv da, Iv df, Iv dk, .slice i s n, Iv dq, Iv bd, Iv bi, .bool bn]), (Iv f8)]) fu)))
 ((kLd ga ⟨f6, 0, none⟩ .i64 fun hk =>
 (CP N_sender_side_place #[(.pointer d), (Iv hk)] ga fun ge fv =>
 ∃ fh : Int, ge = .returned (Iv fh) /\
 (kNil d fun hl =>
 (kLd fv (hl.add 7) .i64 fun hm =>
 (CP N_sender_side_place #[(.pointer d), (Iv hm)] fv fun gf x =>
 ∃ gl : Int, gf = .returned (Iv gl) /\
 (bsplit (decide (fh > gl))
 ((sxStore x ⟨f, 0, none⟩ 0 [(Iv (0 : Int)), (Iv (0 : Int)), (Iv (0 : Int)), (Iv (0 : Int)), (Iv (0 : Int)), (Iv (0 : Int)), (Iv (0 : Int)), (Iv (0 : Int)), (.slice none 0 0), (Iv (0 : Int)), (Iv (0 : Int)), (Iv (0 : Int)), (.bool false)] fun fw =>
 (∃ cj cr cw c1 c6 db dg dl : Int, ∃ j : OA, ∃ t o : Nat, ∃ dr be bj : Int, ∃ bo : Bool, cellsAt fw ⟨f, 0, none⟩ 0 [(Iv cj), (Iv cr), (Iv cw), (Iv c1), (Iv c6), (Iv db), (Iv dg), (Iv dl), (.slice j t o), (Iv dr), (Iv be), (Iv bj), (.bool bo)] /\
 R (.tuple #[(.agg #[Iv cj, Iv cr, Iv cw, Iv c1, Iv c6, Iv db, Iv dg, Iv dl, .slice j t o, Iv dr, Iv be, Iv bj, .bool bo]), (Iv (3 : Int))]) fw)))
 ((∃ ff : WP,
 (∀ (_ : Env)  (dv : World), ff dv ->
 (kNil d fun g1 =>
 (kLdS dv (g1.add 8) fun hc f5 _ =>
 (∃ fj : OA -> Nat -> Nat -> Int -> Nat × (WP), (fj none 0 0 (0 : Int)).2 dv /\
 (∀ (_ : Env) (b : OA) (a : Nat) (c : Nat) (e : Int) (y : World), (fj b a c e).2 y ->
 (bsplit (decide (e < (f5 : Int)))
 ((kIx hc f5 e fun he =>
 (∃ d2 : Int, ∃ aa : OA, ∃ ak af : Nat, ∃ ee em : Int, ∃ cc : OA, ∃ ce cd : Nat, cellsAt y (he.add (e.toNat * 5)) 0 [(Iv d2), (.slice aa ak af), (Iv ee), (Iv em), (.slice cc ce cd)] /\
 (kAlloc y #[Iv (0 : Int), .slice none 0 0, Iv (0 : Int), Iv (0 : Int), .slice none 0 0] Ty_api_Unit fun g gs =>
 (sxStore gs ⟨g, 0, none⟩ 0 [(Iv d2), (.slice aa ak af), (Iv ee), (Iv em), (.slice cc ce cd)] fun dw =>
 (∃ d3 : Int, ∃ ab : OA, ∃ al ag : Nat, ∃ ef en : Int, ∃ ap : OA, ∃ ax au : Nat, cellsAt dw ⟨g, 0, none⟩ 0 [(Iv d3), (.slice ab al ag), (Iv ef), (Iv en), (.slice ap ax au)] /\
 (∃ d4 : Int, ∃ ac : OA, ∃ am ah : Nat, cellsAt dw ⟨f6, 0, none⟩ 0 [(Iv d4), (.slice ac am ah)] /\
 (CP N_sender_missing #[(.agg #[Iv d3, .slice ab al ag, Iv ef, Iv en, .slice ap ax au]), (.agg #[Iv d4, .slice ac am ah])] dw fun gh fy =>
 ∃ fs : OA, ∃ du ft : Nat, ∃ gn : Bool, gh = .returned (.tuple #[(.slice fs du ft), (.bool gn)]) /\
 (∃ cf : WP,
 (∀ (_ : Env)  (dy : World), cf dy ->
 (∃ d6 : Int, ∃ ae : OA, ∃ ao aj : Nat, ∃ eh ep : Int, ∃ ar : OA, ∃ az aw : Nat, cellsAt dy ⟨g, 0, none⟩ 0 [(Iv d6), (.slice ae ao aj), (Iv eh), (Iv ep), (.slice ar az aw)] /\
 (kAlloc dy #[(Iv d6), (.slice ae ao aj), (Iv eh), (Iv ep), (.slice ar az aw)] Ty_api_Unit fun hf gv =>
 (AppP Tryz.prog #[Ty_S_api_Unit, Ty_S_api_Unit] Ty_S_api_Unit #[(.slice b a c), (.slice (some ⟨hf, 0, none⟩) 1 1)] gv fun fc fe fd gw =>
 (kW .i64 (e + (1 : Int)) fun f4 =>
 ((fj fc fe fd f4).2 gw /\ (fj fc fe fd f4).1 < (fj b a c e).1)))))) /\
 (kLd fy ⟨g, 0, none⟩ .i64 fun g2 =>
 (CP N_sender_side_place #[(.pointer d), (Iv g2)] fy fun gi z =>
 ∃ go : Int, gi = .returned (Iv go) /\
 (kLet (decide (go >= fh)) fun g3 =>
 (bsplit g3
 (cf z)
 ((bsplit gn
 ((kLdS z ⟨g, 4, none⟩ fun _ gb _ =>
 (kLet (decide ((gb : Int) = (0 : Int))) fun fg =>
 (kSet z ⟨g, 4, none⟩ (.slice fs du ft) fun dx =>
 (bsplit fg
 ((bsplit (decide ((du : Int) > (0 : Int)))
 ((CP N_sender_side_again #[(.pointer d), (.pointer (some ⟨g, 0, none⟩))] dx fun gj gt =>
 gj = .returned (.tuple #[]) /\
 cf gt))
 (cf dx)))
 (cf dx))))))
 ((∃ d5 : Int, ∃ ad : OA, ∃ an ai : Nat, ∃ eg eo : Int, ∃ aq : OA, ∃ ay av : Nat, cellsAt z ⟨g, 0, none⟩ 0 [(Iv d5), (.slice ad an ai), (Iv eg), (Iv eo), (.slice aq ay av)] /\
 (CP N_sender_whole #[(.agg #[Iv d5, .slice ad an ai, Iv eg, Iv eo, .slice aq ay av])] z fun f7 fz =>
 ∃ gp : Bool, f7 = .returned (.bool gp) /\
 (bsplit gp
 ((kW .i64 (e + (1 : Int)) fun f3 =>
 ((fj b a c f3).2 fz /\ (fj b a c f3).1 < (fj b a c e).1)))
 (cf fz))))))))))))))))))))
 ((kNil d fun g4 =>
 (kLd y (g4.add 7) .i64 fun g5 =>
 (kNil d fun g6 =>
 (kSet y (g6.add 8) (.slice b a c) fun gx =>
 (kNil d fun g7 =>
 (kSet gx (g7.add 6) (Iv g5) fun bu =>
 (bsplit (decide ((a : Int) > (0 : Int)))
 ((kIx b a (0 : Int) fun hg =>
 (kLd bu (hg.add ((0 : Int).toNat * 5)) .i64 fun g8 =>
 (kNil d fun g9 =>
 (kSet bu (g9.add 6) (Iv g8) fun f0 =>
 (kNil d fun ha =>
 (∃ d7 ea ei eq eu ey e2 e6 : Int, ∃ a2 : OA, ∃ ba a6 : Nat, ∃ fa bz b3 : Int, ∃ b7 : Bool, cellsAt f0 ha 0 [(Iv d7), (Iv ea), (Iv ei), (Iv eq), (Iv eu), (Iv ey), (Iv e2), (Iv e6), (.slice a2 ba a6), (Iv fa), (Iv bz), (Iv b3), (.bool b7)] /\
 (sxStore f0 ⟨f, 0, none⟩ 0 [(Iv d7), (Iv ea), (Iv ei), (Iv eq), (Iv eu), (Iv ey), (Iv e2), (Iv e6), (.slice a2 ba a6), (Iv fa), (Iv bz), (Iv b3), (.bool b7)] fun f1 =>
 (∃ ck cs cx c2 c7 dc dh dm : Int, ∃ k : OA, ∃ u p : Nat, ∃ ds bf bk : Int, ∃ bp : Bool, cellsAt f1 ⟨f, 0, none⟩ 0 [(Iv ck), (Iv cs), (Iv cx), (Iv c2), (Iv c7), (Iv dc), (Iv dh), (Iv dm), (.slice k u p), (Iv ds), (Iv bf), (Iv bk), (.bool bp)] /\
 R (.tuple #[(.agg #[Iv ck, Iv cs, Iv cx, Iv c2, Iv c7, Iv dc, Iv dh, Iv dm, .slice k u p, Iv ds, Iv bf, Iv bk, .bool bp]), (Iv (0 : Int))]) f1)))))))))
 ((kNil d fun hb =>
 (∃ bv eb ej er ev ez e3 e7 : Int, ∃ a3 : OA, ∃ bb a7 : Nat, ∃ fb b0 b4 : Int, ∃ b8 : Bool, cellsAt bu hb 0 [(Iv bv), (Iv eb), (Iv ej), (Iv er), (Iv ev), (Iv ez), (Iv e3), (Iv e7), (.slice a3 bb a7), (Iv fb), (Iv b0), (Iv b4), (.bool b8)] /\
 (sxStore bu ⟨f, 0, none⟩ 0 [(Iv bv), (Iv eb), (Iv ej), (Iv er), (Iv ev), (Iv ez), (Iv e3), (Iv e7), (.slice a3 bb a7), (Iv fb), (Iv b0), (Iv b4), (.bool b8)] fun f2 =>
 (∃ cl ct cy c3 c8 dd di dn : Int, ∃ l : OA, ∃ v q : Nat, ∃ dt bg bl : Int, ∃ bq : Bool, cellsAt f2 ⟨f, 0, none⟩ 0 [(Iv cl), (Iv ct), (Iv cy), (Iv c3), (Iv c8), (Iv dd), (Iv di), (Iv dn), (.slice l v q), (Iv dt), (Iv bg), (Iv bl), (.bool bq)] /\
 R (.tuple #[(.agg #[Iv cl, Iv ct, Iv cy, Iv c3, Iv c8, Iv dd, Iv di, Iv dn, .slice l v q, Iv dt, Iv bg, Iv bl, .bool bq]), (Iv (0 : Int))]) f2))))))))))))))))))) /\
 (kNil d fun hn =>
 (kLd x (hn.add 10) .i64 fun ho =>
 (bsplit (!decide (ho = (-1 : Int)))
 ((kNil d fun hp =>
 (kLd x (hp.add 10) .i64 fun hq =>
 (CP N_sender_side_place #[(.pointer d), (Iv hq)] x fun gg fx =>
 ∃ gm : Int, gg = .returned (Iv gm) /\
 (bsplit (decide (gm < fh))
 ((kNil d fun hr =>
 (kSet fx (hr.add 10) (Iv (-1 : Int)) fun gq =>
 (kNil d fun hs =>
 (kSet gq (hs.add 11) (Iv (0 : Int)) fun gr =>
 ff gr)))))
 (ff fx))))))
 (ff x))))))))))))))))) /\
 (∃ dz d8 ec ek es ew e0 e4 : Int, ∃ a0 : OA, ∃ a8 a4 : Nat, ∃ e8 bw b1 : Int, ∃ b5 : Bool, cellsAt gu ⟨hd, 0, none⟩ 0 [(Iv dz), (Iv d8), (Iv ec), (Iv ek), (Iv es), (Iv ew), (Iv e0), (Iv e4), (.slice a0 a8 a4), (Iv e8), (Iv bw), (Iv b1), (.bool b5)] /\
 (CP N_sender_Valid #[(.agg #[Iv dz, Iv d8, Iv ec, Iv ek, Iv es, Iv ew, Iv e0, Iv e4, .slice a0 a8 a4, Iv e8, Iv bw, Iv b1, .bool b5])] gu fun hh fi =>
 ∃ hu : Bool, hh = .returned (.bool hu) /\
 (bsplit (!hu)
 ((sxStore fi ⟨f, 0, none⟩ 0 [(Iv (0 : Int)), (Iv (0 : Int)), (Iv (0 : Int)), (Iv (0 : Int)), (Iv (0 : Int)), (Iv (0 : Int)), (Iv (0 : Int)), (Iv (0 : Int)), (.slice none 0 0), (Iv (0 : Int)), (Iv (0 : Int)), (Iv (0 : Int)), (.bool false)] fun gy =>
 (∃ cg fk fl fm fn fo fp fq : Int, ∃ br : OA, ∃ bt bs : Nat, ∃ fr cm cn : Int, ∃ co : Bool, cellsAt gy ⟨f, 0, none⟩ 0 [(Iv cg), (Iv fk), (Iv fl), (Iv fm), (Iv fn), (Iv fo), (Iv fp), (Iv fq), (.slice br bt bs), (Iv fr), (Iv cm), (Iv cn), (.bool co)] /\
 R (.tuple #[(.agg #[Iv cg, Iv fk, Iv fl, Iv fm, Iv fn, Iv fo, Iv fp, Iv fq, .slice br bt bs, Iv fr, Iv cm, Iv cn, .bool co]), (Iv (1 : Int))]) gy)))
 ((kLd fi ⟨hd, 0, none⟩ .i64 fun hv =>
 (∃ d0 : Int, ∃ b9 : OA, ∃ cb ca : Nat, cellsAt fi ⟨f6, 0, none⟩ 0 [(Iv d0), (.slice b9 cb ca)] /\
 (CP N_status_Valid #[(Iv hv), (.agg #[Iv d0, .slice b9 cb ca])] fi fun gc gz =>
 ∃ gk : Bool, gc = .returned (.bool gk) /\
 (bsplit (!gk)
 ((sxStore gz ⟨f, 0, none⟩ 0 [(Iv (0 : Int)), (Iv (0 : Int)), (Iv (0 : Int)), (Iv (0 : Int)), (Iv (0 : Int)), (Iv (0 : Int)), (Iv (0 : Int)), (Iv (0 : Int)), (.slice none 0 0), (Iv (0 : Int)), (Iv (0 : Int)), (Iv (0 : Int)), (.bool false)] fun g0 =>
 (∃ ch cp cu cz c4 c9 de dj : Int, ∃ h : OA, ∃ r m : Nat, ∃ dp bc bh : Int, ∃ bm : Bool, cellsAt g0 ⟨f, 0, none⟩ 0 [(Iv ch), (Iv cp), (Iv cu), (Iv cz), (Iv c4), (Iv c9), (Iv de), (Iv dj), (.slice h r m), (Iv dp), (Iv bc), (Iv bh), (.bool bm)] /\
 R (.tuple #[(.agg #[Iv ch, Iv cp, Iv cu, Iv cz, Iv c4, Iv c9, Iv de, Iv dj, .slice h r m, Iv dp, Iv bc, Iv bh, .bool bm]), (Iv (1 : Int))]) g0)))
 (ht gz)))))))))))))
theorem F_sender_Report_ok {R : EP} (x_0 x_1 x_2 x_3 x_4 x_5 x_6 x_7 : Int) (x_8_a : OA) (x_8_l x_8_c : Nat) (x_9 x_10 x_11 : Int) (x_12 : Bool) (r_0 : Int) (r_1_a : OA) (r_1_l r_1_c : Nat) (w : World) (h : F_sender_Report x_0 x_1 x_2 x_3 x_4 x_5 x_6 x_7 x_8_a x_8_l x_8_c x_9 x_10 x_11 x_12 r_0 r_1_a r_1_l r_1_c w fun v w' => R (.returned v) w') : CP N_sender_Report #[(.agg #[Iv x_0, Iv x_1, Iv x_2, Iv x_3, Iv x_4, Iv x_5, Iv x_6, Iv x_7, .slice x_8_a x_8_l x_8_c, Iv x_9, Iv x_10, Iv x_11, .bool x_12]), (.agg #[Iv r_0, .slice r_1_a r_1_l r_1_c])] w R :=
 calls_of (k := TTk) (h := h_sender_Report) (f := 53) follows_ok Tryz.func53 (Eq.mpr (by kernel_rfl) h)

def h_amlink_run_send : H := (sr (.seq sc (.cut [(3, .p .addr), (4, .p (.int .i64))] ([3, 4] ++ rg 11 14) (.draw .blk (so 0 10 (.alt 10 (so 11 3 (ko 14 2 (so 16 1 .nil))) (.alt 14 (ko 10 1 (so 11 3 (ko 15 1 (so 16 1 .nil)))) .endAlt)))) (.seq sc (.seq (.draw .blk (po 0 1 (so 1 1 (po 2 5 (so 7 1 (po 8 2 (ko 10 1 (so 11 2 (lo 13 1 .nil))))))))) sl)))))
def F_amlink_run_send (x_b x_o : Nat) (w : World) (R : Value -> WP) : Prop :=
 (kLdS w ⟨x_b, x_o + 27, none⟩ fun _ b1 _ =>
 (bsplit (decide ((b1 : Int) = (0 : Int)))
 (R (.bool false) w)
 ((∃ b2 : Addr -> Int -> WP,
 (∀ (_ : Env) (b7 : Addr) (bq : Int) (bk : World), b2 b7 bq bk ->
 (bsplit (!decide (bq = (0 : Int)))
 (R (.bool false) bk)
 ((kDrew bk fun a9 =>
 (∃ b3 : Nat -> Prop,
 (∃ ak am ao aq au aw ay a0 : Int, ∃ h : OA, ∃ j i : Nat, ∃ a2 t u : Int, ∃ v : Bool, cellsAt a9 b7 0 [(Iv ak), (Iv am), (Iv ao), (Iv aq), (Iv au), (Iv aw), (Iv ay), (Iv a0), (.slice h j i), (Iv a2), (Iv t), (Iv u), (.bool v)] /\
 (kLdS a9 ⟨x_b, x_o + 27, none⟩ fun bm a7 a5 =>
 ((0 <= (1 : Int) /\ (1 : Int) <= ((a7 : Nat) : Int)) /\ (sxStore a9 ⟨x_b, x_o, none⟩ 0 [(Iv ak), (Iv am), (Iv ao), (Iv aq), (Iv au), (Iv aw), (Iv ay), (Iv a0), (.slice h j i), (Iv a2), (Iv t), (Iv u), (.bool v)] fun bj =>
 (KeepsB b3 a9 bj /\ (kSet bj ⟨x_b, x_o + 27, none⟩ (.slice (slAddr a5 ((1 : Int).toNat) 1 bm) (a7 - (1 : Int).toNat) (a5 - (1 : Int).toNat)) fun bt =>
 R (.bool true) bt))))))))))) /\
 (kDrew w fun a =>
 (∃ a8 : Nat -> Prop,
 (a8 x_b /\
 (∃ aj al an ap ar av ax az : Int, ∃ b : OA, ∃ d c : Nat, ∃ a1 k l : Int, ∃ m : Bool, cellsAt a ⟨x_b, x_o, none⟩ 0 [(Iv aj), (Iv al), (Iv an), (Iv ap), (Iv ar), (Iv av), (Iv ax), (Iv az), (.slice b d c), (Iv a1), (Iv k), (Iv l), (.bool m)] /\
 (a8 x_b /\
 (kLdS a ⟨x_b, x_o + 27, none⟩ fun bl bn _ =>
 (kIx bl bn (0 : Int) fun b5 =>
 (a8 (b5.add ((0 : Int).toNat * 1)).block /\
 (kLdS a (b5.add ((0 : Int).toNat * 1)) fun a3 a6 a4 =>
 ((CP N_sender_Submit #[(.agg #[Iv aj, Iv al, Iv an, Iv ap, Iv ar, Iv av, Iv ax, Iv az, .slice b d c, Iv a1, Iv k, Iv l, .bool m]), (.slice a3 a6 a4)] a fun br bx =>
 ∃ x ab ac ad ae af ag ah : Int, ∃ e : OA, ∃ g f : Nat, ∃ ai n o : Int, ∃ p : Bool, ∃ bs : Int, br = .returned (.tuple #[(.agg #[Iv x, Iv ab, Iv ac, Iv ad, Iv ae, Iv af, Iv ag, Iv ah, .slice e g f, Iv ai, Iv n, Iv o, .bool p]), (Iv bs)]) /\
 (KeepsB a8 a bx /\ (kAlloc bx #[Iv (0 : Int), Iv (0 : Int), Iv (0 : Int), Iv (0 : Int), Iv (0 : Int), Iv (0 : Int), Iv (0 : Int), Iv (0 : Int), .slice none 0 0, Iv (0 : Int), Iv (0 : Int), Iv (0 : Int), .bool false] Ty_api_Sender fun bp bz =>
 (KeepsB a8 a bz /\ (sxStore bz ⟨bp, 0, none⟩ 0 [(Iv x), (Iv ab), (Iv ac), (Iv ad), (Iv ae), (Iv af), (Iv ag), (Iv ah), (.slice e g f), (Iv ai), (Iv n), (Iv o), (.bool p)] fun b0 =>
 (KeepsB a8 a b0 /\ b2 ⟨bp, 0, none⟩ bs b0)))))) /\
 ((kAlloc a #[Iv (0 : Int), Iv (0 : Int), Iv (0 : Int), Iv (0 : Int), Iv (0 : Int), Iv (0 : Int), Iv (0 : Int), Iv (0 : Int), .slice none 0 0, Iv (0 : Int), Iv (0 : Int), Iv (0 : Int), .bool false] Ty_api_Sender fun bo bu =>
 (KeepsB a8 a bu /\ (CP N_sender_Submit #[(.agg #[Iv aj, Iv al, Iv an, Iv ap, Iv ar, Iv av, Iv ax, Iv az, .slice b d c, Iv a1, Iv k, Iv l, .bool m]), (.slice a3 a6 a4)] bu fun b4 bv =>
 ∃ ba bb bc bd be bf bg bh : Int, ∃ q : OA, ∃ s r : Nat, ∃ bi y z : Int, ∃ aa : Bool, ∃ b6 : Int, b4 = .returned (.tuple #[(.agg #[Iv ba, Iv bb, Iv bc, Iv bd, Iv be, Iv bf, Iv bg, Iv bh, .slice q s r, Iv bi, Iv y, Iv z, .bool aa]), (Iv b6)]) /\
 (KeepsB a8 a bv /\ (sxStore bv ⟨bo, 0, none⟩ 0 [(Iv ba), (Iv bb), (Iv bc), (Iv bd), (Iv be), (Iv bf), (Iv bg), (Iv bh), (.slice q s r), (Iv bi), (Iv y), (Iv z), (.bool aa)] fun bw =>
 (KeepsB a8 a bw /\ b2 ⟨bo, 0, none⟩ b6 bw)))))) /\
 True)))))))))))))))
theorem F_amlink_run_send_ok {R : EP} (x_b x_o : Nat) (w : World) (h : F_amlink_run_send x_b x_o w fun v w' => R (.returned v) w') : CP N_amlink_run_send #[(.pointer (some ⟨x_b, x_o, none⟩))] w R :=
 calls_of (k := TTk) (h := h_amlink_run_send) (f := 54) follows_ok Tryz.func54 (Eq.mpr (by kernel_rfl) h)

def h_amlink_run_build : H := (sr (sr (.seq sc (sr (sr sl)))))
def F_amlink_run_build (x_b x_o : Nat) (size : Int) (w : World) (R : Value -> WP) : Prop :=
 (∃ ao ap aq ar au av aw ax : Int, ∃ j : OA, ∃ l k : Nat, ∃ ay q r : Int, ∃ s : Bool, cellsAt w ⟨x_b, x_o, none⟩ 0 [(Iv ao), (Iv ap), (Iv aq), (Iv ar), (Iv au), (Iv av), (Iv aw), (Iv ax), (.slice j l k), (Iv ay), (Iv q), (Iv r), (.bool s)] /\
 (CP N_sender_Build #[(.agg #[Iv ao, Iv ap, Iv aq, Iv ar, Iv au, Iv av, Iv aw, Iv ax, .slice j l k, Iv ay, Iv q, Iv r, .bool s]), (Iv size)] w fun a1 a2 =>
 ∃ ac ad ae af ag ah ai aj : Int, ∃ d : OA, ∃ f e : Nat, ∃ ak m n : Int, ∃ o : Bool, ∃ al : OA, ∃ an am : Nat, ∃ a7 : Int, a1 = .returned (.tuple #[(.agg #[Iv ac, Iv ad, Iv ae, Iv af, Iv ag, Iv ah, Iv ai, Iv aj, .slice d f e, Iv ak, Iv m, Iv n, .bool o]), (.slice al an am), (Iv a7)]) /\
 (kAlloc a2 #[Iv (0 : Int), Iv (0 : Int), Iv (0 : Int), Iv (0 : Int), Iv (0 : Int), Iv (0 : Int), Iv (0 : Int), Iv (0 : Int), .slice none 0 0, Iv (0 : Int), Iv (0 : Int), Iv (0 : Int), .bool false] Ty_api_Sender fun a6 a3 =>
 (sxStore a3 ⟨a6, 0, none⟩ 0 [(Iv ac), (Iv ad), (Iv ae), (Iv af), (Iv ag), (Iv ah), (Iv ai), (Iv aj), (.slice d f e), (Iv ak), (Iv m), (Iv n), (.bool o)] fun az =>
 (bsplit (!decide (a7 = (0 : Int)))
 (R (.bool false) az)
 ((∃ p t u v x y z aa : Int, ∃ a : OA, ∃ c b : Nat, ∃ ab g h : Int, ∃ i : Bool, cellsAt az ⟨a6, 0, none⟩ 0 [(Iv p), (Iv t), (Iv u), (Iv v), (Iv x), (Iv y), (Iv z), (Iv aa), (.slice a c b), (Iv ab), (Iv g), (Iv h), (.bool i)] /\
 (sxStore az ⟨x_b, x_o, none⟩ 0 [(Iv p), (Iv t), (Iv u), (Iv v), (Iv x), (Iv y), (Iv z), (Iv aa), (.slice a c b), (Iv ab), (Iv g), (Iv h), (.bool i)] fun a4 =>
 (CP N_amlink_queue_put #[(.pointer (some ⟨x_b, x_o + 28, none⟩)), (.slice al an am)] a4 fun a0 a5 =>
 a0 = .returned (.tuple #[]) /\
 R (.bool true) a5)))))))))
theorem F_amlink_run_build_ok {R : EP} (x_b x_o : Nat) (size : Int) (w : World) (h : F_amlink_run_build x_b x_o size w fun v w' => R (.returned v) w') : CP N_amlink_run_build #[(.pointer (some ⟨x_b, x_o, none⟩)), (Iv size)] w R :=
 calls_of (k := TTk) (h := h_amlink_run_build) (f := 55) follows_ok Tryz.func55 (Eq.mpr (by kernel_rfl) h)

def h_amlink_run_report : H := (sr (sr (.cond (sr .reg) .leaf)))
def F_amlink_run_report (x_b x_o : Nat) (size : Int) (w : World) (R : Value -> WP) : Prop :=
 (∃ aq ar au av aw ax ay az a0 a1 q r : Int, ∃ s : Bool, ∃ g : OA, ∃ i h : Nat, cellsAt w ⟨x_b, x_o + 13, none⟩ 0 [(Iv aq), (Iv ar), (Iv au), (Iv av), (Iv aw), (Iv ax), (Iv ay), (Iv az), (Iv a0), (Iv a1), (Iv q), (Iv r), (.bool s), (.slice g i h)] /\
 (CP N_receiver_Report #[(.agg #[Iv aq, Iv ar, Iv au, Iv av, Iv aw, Iv ax, Iv ay, Iv az, Iv a0, Iv a1, Iv q, Iv r, .bool s, .slice g i h]), (Iv size)] w fun a4 a5 =>
 ∃ ad ae af ag ah ai aj ak al am m n : Int, ∃ o : Bool, ∃ d : OA, ∃ f e : Nat, ∃ an : OA, ∃ ap ao : Nat, ∃ ba : Int, a4 = .returned (.tuple #[(.agg #[Iv ad, Iv ae, Iv af, Iv ag, Iv ah, Iv ai, Iv aj, Iv ak, Iv al, Iv am, Iv m, Iv n, .bool o, .slice d f e]), (.slice an ap ao), (Iv ba)]) /\
 (kAlloc a5 #[Iv (0 : Int), Iv (0 : Int), Iv (0 : Int), Iv (0 : Int), Iv (0 : Int), Iv (0 : Int), Iv (0 : Int), Iv (0 : Int), Iv (0 : Int), Iv (0 : Int), Iv (0 : Int), Iv (0 : Int), .bool false, .slice none 0 0] Ty_api_Receiver fun a9 a6 =>
 (sxStore a6 ⟨a9, 0, none⟩ 0 [(Iv ad), (Iv ae), (Iv af), (Iv ag), (Iv ah), (Iv ai), (Iv aj), (Iv ak), (Iv al), (Iv am), (Iv m), (Iv n), (.bool o), (.slice d f e)] fun a2 =>
 (bsplit (decide (ba = (0 : Int)))
 ((∃ p t u v x y z aa ab ac j k : Int, ∃ l : Bool, ∃ a : OA, ∃ c b : Nat, cellsAt a2 ⟨a9, 0, none⟩ 0 [(Iv p), (Iv t), (Iv u), (Iv v), (Iv x), (Iv y), (Iv z), (Iv aa), (Iv ab), (Iv ac), (Iv j), (Iv k), (.bool l), (.slice a c b)] /\
 (sxStore a2 ⟨x_b, x_o + 13, none⟩ 0 [(Iv p), (Iv t), (Iv u), (Iv v), (Iv x), (Iv y), (Iv z), (Iv aa), (Iv ab), (Iv ac), (Iv j), (Iv k), (.bool l), (.slice a c b)] fun a7 =>
 (CP N_amlink_queue_put #[(.pointer (some ⟨x_b, x_o + 29, none⟩)), (.slice an ap ao)] a7 fun a3 a8 =>
 a3 = .returned (.tuple #[]) /\
 R (.tuple #[]) a8))))
 (R (.tuple #[]) a2))))))
theorem F_amlink_run_report_ok {R : EP} (x_b x_o : Nat) (size : Int) (w : World) (h : F_amlink_run_report x_b x_o size w fun v w' => R (.returned v) w') : CP N_amlink_run_report #[(.pointer (some ⟨x_b, x_o, none⟩)), (Iv size)] w R :=
 calls_of (k := TTk) (h := h_amlink_run_report) (f := 56) follows_ok Tryz.func56 (Eq.mpr (by kernel_rfl) h)

def h_amlink_run_tick : H := (.cut [] ([2, 3] ++ rg 6 14) (sr (sr (.cond .reg .leaf))) (sr (sr (.cond .reg .leaf))))
def F_amlink_run_tick (x_b x_o : Nat) (w : World) (R : Value -> WP) : Prop :=
 (∃ cf : WP,
 (∀ (_ : Env)  (ca : World), cf ca ->
 (∃ au a0 a3 a6 a9 bc bf bi b7 bm t x : Int, ∃ aa : Bool, ∃ g : OA, ∃ i h : Nat, cellsAt ca ⟨x_b, x_o + 13, none⟩ 0 [(Iv au), (Iv a0), (Iv a3), (Iv a6), (Iv a9), (Iv bc), (Iv bf), (Iv bi), (Iv b7), (Iv bm), (Iv t), (Iv x), (.bool aa), (.slice g i h)] /\
 (CP N_receiver_Tick #[(.agg #[Iv au, Iv a0, Iv a3, Iv a6, Iv a9, Iv bc, Iv bf, Iv bi, Iv b7, Iv bm, Iv t, Iv x, .bool aa, .slice g i h])] ca fun cd ck =>
 ∃ af aj ak al am an ao ap bw aq m n : Int, ∃ o : Bool, ∃ d : OA, ∃ f e : Nat, ∃ ce : Int, cd = .returned (.tuple #[(.agg #[Iv af, Iv aj, Iv ak, Iv al, Iv am, Iv an, Iv ao, Iv ap, Iv bw, Iv aq, Iv m, Iv n, .bool o, .slice d f e]), (Iv ce)]) /\
 (kAlloc ck #[Iv (0 : Int), Iv (0 : Int), Iv (0 : Int), Iv (0 : Int), Iv (0 : Int), Iv (0 : Int), Iv (0 : Int), Iv (0 : Int), Iv (0 : Int), Iv (0 : Int), Iv (0 : Int), Iv (0 : Int), .bool false, .slice none 0 0] Ty_api_Receiver fun cc cl =>
 (sxStore cl ⟨cc, 0, none⟩ 0 [(Iv af), (Iv aj), (Iv ak), (Iv al), (Iv am), (Iv an), (Iv ao), (Iv ap), (Iv bw), (Iv aq), (Iv m), (Iv n), (.bool o), (.slice d f e)] fun cb =>
 (bsplit (decide (ce = (0 : Int)))
 ((∃ av a1 a4 a7 ba bd bg bj bk bn u y : Int, ∃ ab : Bool, ∃ a : OA, ∃ c b : Nat, cellsAt cb ⟨cc, 0, none⟩ 0 [(Iv av), (Iv a1), (Iv a4), (Iv a7), (Iv ba), (Iv bd), (Iv bg), (Iv bj), (Iv bk), (Iv bn), (Iv u), (Iv y), (.bool ab), (.slice a c b)] /\
 (sxStore cb ⟨x_b, x_o + 13, none⟩ 0 [(Iv av), (Iv a1), (Iv a4), (Iv a7), (Iv ba), (Iv bd), (Iv bg), (Iv bj), (Iv bk), (Iv bn), (Iv u), (Iv y), (.bool ab), (.slice a c b)] fun cm =>
 R (.tuple #[]) cm)))
 (R (.tuple #[]) cb))))))) /\
 (∃ bz b0 b1 b2 b3 b4 b5 b6 : Int, ∃ ac : OA, ∃ ae ad : Nat, ∃ b8 aw ax : Int, ∃ ay : Bool, cellsAt w ⟨x_b, x_o, none⟩ 0 [(Iv bz), (Iv b0), (Iv b1), (Iv b2), (Iv b3), (Iv b4), (Iv b5), (Iv b6), (.slice ac ae ad), (Iv b8), (Iv aw), (Iv ax), (.bool ay)] /\
 (CP N_sender_Tick #[(.agg #[Iv bz, Iv b0, Iv b1, Iv b2, Iv b3, Iv b4, Iv b5, Iv b6, .slice ac ae ad, Iv b8, Iv aw, Iv ax, .bool ay])] w fun cg ch =>
 ∃ bo bp bq br bs bt bu bv : Int, ∃ p : OA, ∃ r q : Nat, ∃ bx ag ah : Int, ∃ ai : Bool, ∃ co : Int, cg = .returned (.tuple #[(.agg #[Iv bo, Iv bp, Iv bq, Iv br, Iv bs, Iv bt, Iv bu, Iv bv, .slice p r q, Iv bx, Iv ag, Iv ah, .bool ai]), (Iv co)]) /\
 (kAlloc ch #[Iv (0 : Int), Iv (0 : Int), Iv (0 : Int), Iv (0 : Int), Iv (0 : Int), Iv (0 : Int), Iv (0 : Int), Iv (0 : Int), .slice none 0 0, Iv (0 : Int), Iv (0 : Int), Iv (0 : Int), .bool false] Ty_api_Sender fun cn ci =>
 (sxStore ci ⟨cn, 0, none⟩ 0 [(Iv bo), (Iv bp), (Iv bq), (Iv br), (Iv bs), (Iv bt), (Iv bu), (Iv bv), (.slice p r q), (Iv bx), (Iv ag), (Iv ah), (.bool ai)] fun b9 =>
 (bsplit (decide (co = (0 : Int)))
 ((∃ ar az a2 a5 a8 bb be bh : Int, ∃ j : OA, ∃ l k : Nat, ∃ bl s v : Int, ∃ z : Bool, cellsAt b9 ⟨cn, 0, none⟩ 0 [(Iv ar), (Iv az), (Iv a2), (Iv a5), (Iv a8), (Iv bb), (Iv be), (Iv bh), (.slice j l k), (Iv bl), (Iv s), (Iv v), (.bool z)] /\
 (sxStore b9 ⟨x_b, x_o, none⟩ 0 [(Iv ar), (Iv az), (Iv a2), (Iv a5), (Iv a8), (Iv bb), (Iv be), (Iv bh), (.slice j l k), (Iv bl), (Iv s), (Iv v), (.bool z)] fun cj =>
 cf cj)))
 (cf b9)))))))
theorem F_amlink_run_tick_ok {R : EP} (x_b x_o : Nat) (w : World) (h : F_amlink_run_tick x_b x_o w fun v w' => R (.returned v) w') : CP N_amlink_run_tick #[(.pointer (some ⟨x_b, x_o, none⟩))] w R :=
 calls_of (k := TTk) (h := h_amlink_run_tick) (f := 57) follows_ok Tryz.func57 (Eq.mpr (by kernel_rfl) h)

def h_ref02_valid : H := (sr sl)
def F_ref02_valid (n : Int) (w : World) (R : Value -> WP) : Prop :=
 (bsplit (decide (n >= (1 : Int)))
 ((kLet (decide (n <= (32 : Int))) fun a =>
 R (.bool a) w))
 (R (.bool false) w))
theorem F_ref02_valid_ok {R : EP} (n : Int) (w : World) (h : F_ref02_valid n w fun v w' => R (.returned v) w') : CP N_ref02_valid #[(Iv n)] w R :=
 calls_of (k := TTk) (h := h_ref02_valid) (f := 68) follows_ok Tryz.func68 (Eq.mpr (by kernel_rfl) h)

def h_ref02_Low : H := (sr (.seq sc sl))
def F_ref02_Low (n x : Int) (w : World) (R : Value -> WP) : Prop :=
 (CP N_ref02_valid #[(Iv n)] w fun c a =>
 ∃ g : Bool, c = .returned (.bool g) /\
 (bsplit (!g)
 (R (Iv (-1 : Int)) a)
 ((kW .u64 (n) fun b =>
 (0 <= b /\ (kW .i64 ((1 : Int) * 2 ^ (min b.toNat (IntKind.bits .i64))) fun d =>
 (kW .i64 (d - (1 : Int)) fun e =>
 (kLet (bAnd .i64 x e) fun f =>
 R (Iv f) a))))))))
theorem F_ref02_Low_ok {R : EP} (n x : Int) (w : World) (h : F_ref02_Low n x w fun v w' => R (.returned v) w') : CP N_ref02_Low #[(Iv n), (Iv x)] w R :=
 calls_of (k := TTk) (h := h_ref02_Low) (f := 69) follows_ok Tryz.func69 (Eq.mpr (by kernel_rfl) h)

def h_sender_ValidLink : H := (sr (.cut [(3, .p .bool)] (rg 3 14) .reg sl))
def F_sender_ValidLink (l_0 l_1 l_2 l_3 l_4 l_5 : Int) (w : World) (R : Value -> WP) : Prop :=
 (kAlloc w #[(Iv l_0), (Iv l_1), (Iv l_2), (Iv l_3), (Iv l_4), (Iv l_5)] Ty_api_Link fun g r =>
 (∃ s : Bool -> WP,
 (∀ (_ : Env) (a : Bool) (e : World), s a e ->
 (kLd e ⟨g, 0, none⟩ .i64 fun z =>
 (CP N_counter_Bits #[(Iv z)] e fun j f =>
 ∃ o : Bool, j = .returned (.bool o) /\
 (bsplit o
 ((kLd f ⟨g, 1, none⟩ .i64 fun aa =>
 (CP N_sender_between #[(Iv aa), (Iv (1 : Int)), (Iv (64 : Int))] f fun k b =>
 ∃ p : Bool, k = .returned (.bool p) /\
 (bsplit p
 ((bsplit a
 ((kLd b ⟨g, 5, none⟩ .i64 fun ab =>
 (CP N_sender_between #[(Iv ab), (Iv (1 : Int)), (Iv (32 : Int))] b fun l v =>
 ∃ q : Bool, l = .returned (.bool q) /\
 R (.bool q) v)))
 (R (.bool false) b)))
 (R (.bool false) b)))))
 (R (.bool false) f))))) /\
 (kLd r ⟨g, 2, none⟩ .i64 fun ad =>
 (CP N_sender_between #[(Iv ad), (Iv (1 : Int)), (Iv (1000 : Int))] r fun t c =>
 ∃ ac : Bool, t = .returned (.bool ac) /\
 (bsplit ac
 ((kLd c ⟨g, 3, none⟩ .i64 fun x =>
 (CP N_sender_between #[(Iv x), (Iv (1 : Int)), (Iv (1000 : Int))] c fun h d =>
 ∃ m : Bool, h = .returned (.bool m) /\
 (bsplit m
 ((kLd d ⟨g, 4, none⟩ .i64 fun y =>
 (CP N_sender_between #[(Iv y), (Iv (0 : Int)), (Iv (1000 : Int))] d fun i u =>
 ∃ n : Bool, i = .returned (.bool n) /\
 s n u)))
 (s false d)))))
 (s false c))))))
theorem F_sender_ValidLink_ok {R : EP} (l_0 l_1 l_2 l_3 l_4 l_5 : Int) (w : World) (h : F_sender_ValidLink l_0 l_1 l_2 l_3 l_4 l_5 w fun v w' => R (.returned v) w') : CP N_sender_ValidLink #[(.agg #[Iv l_0, Iv l_1, Iv l_2, Iv l_3, Iv l_4, Iv l_5])] w R :=
 calls_of (k := TTk) (h := h_sender_ValidLink) (f := 70) follows_ok Tryz.func70 (Eq.mpr (by kernel_rfl) h)

def h_slices_IndexFunc_SSbyte_Sbyte : H := (sr (.seq (sr (.block (.loop [(8, .p (.int .i64))] ([4, 5] ++ rg 8 11) (sr (.seq (.cond .leaf .leaf) (.seq (.block (sr sc)) .reg)))))) sl))
def F_slices_IndexFunc_SSbyte_Sbyte (s_a : OA) (s_l _ f_g : Nat) (f_f : Array Value) (f_c : Array Value) (w : World) (R : Value -> WP) : Prop :=
 (∃ c : Int -> Nat × (WP), (c (0 : Int)).2 w /\
 (∀ (_ : Env) (b : Int) (a : World), (c b).2 a ->
 (bsplit (decide (b < (s_l : Int)))
 ((kIx s_a s_l b fun k =>
 (kLdS a (k.add (b.toNat * 1)) fun f h g =>
 (okFn Tryz.prog f_g = true /\ CP f_g (f_f ++ #[(.slice f h g)] ++ f_c) a fun i d =>
 ∃ j : Bool, i = .returned (.bool j) /\
 (bsplit j
 (R (Iv b) d)
 ((kW .i64 (b + (1 : Int)) fun e =>
 ((c e).2 d /\ (c e).1 < (c b).1))))))))
 (R (Iv (-1 : Int)) a))))
theorem F_slices_IndexFunc_SSbyte_Sbyte_ok {R : EP} (s_a : OA) (s_l s_c f_g : Nat) (f_f : Array Value) (f_c : Array Value) (w : World) (h : F_slices_IndexFunc_SSbyte_Sbyte s_a s_l s_c f_g f_f f_c w fun v w' => R (.returned v) w') : CP N_slices_IndexFunc_SSbyte_Sbyte #[(.slice s_a s_l s_c), (.func (.func f_g) f_f f_c)] w R :=
 calls_of (k := TTk) (h := h_slices_IndexFunc_SSbyte_Sbyte) (f := 71) follows_ok Tryz.func71 (Eq.mpr (by kernel_rfl) h)

def h_receiver_Valid : H := (sr (sr (.cut [] ([2] ++ rg 8 25) sc (sr (.seq (.cut [(69, .p .bool)] (rg 37 33) .reg (.cond sl .leaf)) (.seq sc sl))))))
def F_receiver_Valid (r_0 r_1 r_2 r_3 r_4 r_5 r_6 r_7 r_8 r_9 r_10 r_11 : Int) (r_12 : Bool) (r_13_a : OA) (r_13_l r_13_c : Nat) (w : World) (R : Value -> WP) : Prop :=
 (kAlloc w #[(Iv r_0), (Iv r_1), (Iv r_2), (Iv r_3), (Iv r_4), (Iv r_5), (Iv r_6), (Iv r_7), (Iv r_8), (Iv r_9), (Iv r_10), (Iv r_11), (.bool r_12), (.slice r_13_a r_13_l r_13_c)] Ty_api_Receiver fun c a5 =>
 (∃ y z aa ab ac ad ae af ag ah m n : Int, ∃ o : Bool, ∃ e : OA, ∃ g f : Nat, cellsAt a5 ⟨c, 0, none⟩ 0 [(Iv y), (Iv z), (Iv aa), (Iv ab), (Iv ac), (Iv ad), (Iv ae), (Iv af), (Iv ag), (Iv ah), (Iv m), (Iv n), (.bool o), (.slice e g f)] /\
 (kAlloc a5 #[(Iv y), (Iv z), (Iv aa), (Iv ab), (Iv ac), (Iv ad), (Iv ae), (Iv af), (Iv ag), (Iv ah), (Iv m), (Iv n), (.bool o), (.slice e g f)] Ty_receiver_side fun d a7 =>
 (∃ bu : WP,
 (∀ (_ : Env)  (al : World), bu al ->
 (kLd al ⟨c, 7, none⟩ .i64 fun bo =>
 (CP N_receiver_side_place #[(.pointer (some ⟨d, 0, none⟩)), (Iv bo)] al fun ap v =>
 ∃ u : Int, ap = .returned (Iv u) /\
 (∃ i : Bool -> WP,
 (∀ (_ : Env) (x : Bool) (a : World), i x a ->
 (bsplit x
 (R (.bool false) a)
 ((kLd a ⟨c, 9, none⟩ .i64 fun ba =>
 (bsplit (decide (ba = (-1 : Int)))
 ((kLd a ⟨c, 10, none⟩ .i64 fun bb =>
 (kLet (decide (bb = (0 : Int))) fun bc =>
 R (.bool bc) a)))
 ((kLd a ⟨c, 9, none⟩ .i64 fun bd =>
 (CP N_receiver_side_number #[(.pointer (some ⟨d, 0, none⟩)), (Iv bd)] a fun au j =>
 ∃ a2 : Bool, au = .returned (.bool a2) /\
 (bsplit a2
 ((kLd j ⟨c, 9, none⟩ .i64 fun be =>
 (CP N_receiver_side_place #[(.pointer (some ⟨d, 0, none⟩)), (Iv be)] j fun av k =>
 ∃ a3 : Int, av = .returned (Iv a3) /\
 (bsplit (decide (a3 >= (1 : Int)))
 ((kLd k ⟨c, 9, none⟩ .i64 fun bf =>
 (CP N_receiver_side_place #[(.pointer (some ⟨d, 0, none⟩)), (Iv bf)] k fun aw b =>
 ∃ a4 : Int, aw = .returned (Iv a4) /\
 (bsplit (decide (a4 <= u))
 ((kLd b ⟨c, 10, none⟩ .i64 fun bg =>
 (bsplit (decide (bg >= (1 : Int)))
 ((kLd b ⟨c, 10, none⟩ .i64 fun bh =>
 (kLd b ⟨c, 3, none⟩ .i64 fun bi =>
 (kLet (decide (bh <= bi)) fun bj =>
 R (.bool bj) b))))
 (R (.bool false) b))))
 (R (.bool false) b)))))
 (R (.bool false) k)))))
 (R (.bool false) j)))))))))) /\
 (kLd v ⟨c, 0, none⟩ .i64 fun bp =>
 (kW .i64 (bp - (1 : Int)) fun bk =>
 (0 <= bk /\ (kW .i64 ((1 : Int) * 2 ^ (min bk.toNat (IntKind.bits .i64))) fun bq =>
 (bsplit (decide (u > bq))
 (i true v)
 ((kLd v ⟨c, 8, none⟩ .i64 fun br =>
 (CP N_receiver_side_place #[(.pointer (some ⟨d, 0, none⟩)), (Iv br)] v fun aq h =>
 ∃ a0 : Int, aq = .returned (Iv a0) /\
 (bsplit (decide (a0 > u))
 (i true h)
 ((kLd h ⟨c, 11, none⟩ .i64 fun bs =>
 (bsplit (decide (bs < (0 : Int)))
 (i true h)
 ((kLd h ⟨c, 11, none⟩ .i64 fun bt =>
 (kLd h ⟨c, 4, none⟩ .i64 fun a9 =>
 (bsplit (decide (bt > a9))
 (i true h)
 ((CP N_receiver_side_partials #[(.pointer (some ⟨d, 0, none⟩))] h fun ar a6 =>
 ∃ a1 : Bool, ar = .returned (.bool a1) /\
 i (!a1) a6)))))))))))))))))))))) /\
 (∃ l p q r s t : Int, cellsAt a7 ⟨c, 0, none⟩ 0 [(Iv l), (Iv p), (Iv q), (Iv r), (Iv s), (Iv t)] /\
 (CP N_sender_ValidLink #[(.agg #[Iv l, Iv p, Iv q, Iv r, Iv s, Iv t])] a7 fun bl ai =>
 ∃ bv : Bool, bl = .returned (.bool bv) /\
 (bsplit (!bv)
 (R (.bool false) ai)
 ((kLd ai ⟨c, 6, none⟩ .i64 fun bw =>
 (CP N_receiver_side_number #[(.pointer (some ⟨d, 0, none⟩)), (Iv bw)] ai fun am aj =>
 ∃ ax : Bool, am = .returned (.bool ax) /\
 (bsplit (!ax)
 (R (.bool false) aj)
 ((kLd aj ⟨c, 7, none⟩ .i64 fun bm =>
 (CP N_receiver_side_number #[(.pointer (some ⟨d, 0, none⟩)), (Iv bm)] aj fun an ak =>
 ∃ ay : Bool, an = .returned (.bool ay) /\
 (bsplit (!ay)
 (R (.bool false) ak)
 ((kLd ak ⟨c, 8, none⟩ .i64 fun bn =>
 (CP N_receiver_side_number #[(.pointer (some ⟨d, 0, none⟩)), (Iv bn)] ak fun ao a8 =>
 ∃ az : Bool, ao = .returned (.bool az) /\
 (bsplit (!az)
 (R (.bool false) a8)
 (bu a8))))))))))))))))))))
theorem F_receiver_Valid_ok {R : EP} (r_0 r_1 r_2 r_3 r_4 r_5 r_6 r_7 r_8 r_9 r_10 r_11 : Int) (r_12 : Bool) (r_13_a : OA) (r_13_l r_13_c : Nat) (w : World) (h : F_receiver_Valid r_0 r_1 r_2 r_3 r_4 r_5 r_6 r_7 r_8 r_9 r_10 r_11 r_12 r_13_a r_13_l r_13_c w fun v w' => R (.returned v) w') : CP N_receiver_Valid #[(.agg #[Iv r_0, Iv r_1, Iv r_2, Iv r_3, Iv r_4, Iv r_5, Iv r_6, Iv r_7, Iv r_8, Iv r_9, Iv r_10, Iv r_11, .bool r_12, .slice r_13_a r_13_l r_13_c])] w R :=
 calls_of (k := TTk) (h := h_receiver_Valid) (f := 72) follows_ok Tryz.func72 (Eq.mpr (by kernel_rfl) h)

def h_receiver_begin : H := (sr (sr (.seq (sr (.block (.loop [(12, .p (.int .i64))] ([3, 4] ++ rg 12 24) (sr (.seq (.cond .leaf .leaf) (.seq (.block (sr (sr (.draw .cel (so 0 2 (po 2 4 (so 7 4 (ko 6 1 (ko 11 1 (so 12 2 (ko 14 1 (so 15 2 (lo 17 1 .nil))))))))))))) .reg)))))) sl)))
def F_receiver_begin (r_0 r_1 r_2 r_3 r_4 r_5 r_6 r_7 r_8 r_9 r_10 r_11 : Int) (r_12 : Bool) (r_13_a : OA) (r_13_l r_13_c : Nat) (w : World) (R : Value -> WP) : Prop :=
 (kAlloc w #[(Iv r_0), (Iv r_1), (Iv r_2), (Iv r_3), (Iv r_4), (Iv r_5), (Iv r_6), (Iv r_7), (Iv r_8), (Iv r_9), (Iv r_10), (Iv r_11), (.bool r_12), (.slice r_13_a r_13_l r_13_c)] Ty_api_Receiver fun ao ar =>
 (kLdS ar ⟨ao, 13, none⟩ fun a0 a2 a1 =>
 (CP N_slices_Clone_Sapi_Partial_api_Partial #[(.slice a0 a2 a1)] ar fun a5 a6 =>
 ∃ q : OA, ∃ s r : Nat, a5 = .returned (.slice q s r) /\
 (kSet a6 ⟨ao, 13, none⟩ (.slice q s r) fun av =>
 (kLdS av ⟨ao, 13, none⟩ fun _ aj _ =>
 (∃ an : Int -> Nat × (WP), (an (0 : Int)).2 av /\
 (∀ (_ : Env) (p : Int) (l : World), (an p).2 l ->
 (bsplit (decide (p < (aj : Int)))
 ((kLdS l ⟨ao, 13, none⟩ fun ae ak _ =>
 (kIx ae ak p fun e =>
 (kDrew l fun d =>
 (∃ a3 : Addr -> Prop,
 (kLdS d ((e.add (p.toNat * 5)).add 3) fun af al ah =>
 (a3 ((e.add (p.toNat * 5)).add 4) /\
 (kLdS d ((e.add (p.toNat * 5)).add 4) fun ag am ai =>
 (CP N_slices_Clone_Sbyte_byte #[(.slice af al ah)] d fun ap aw =>
 ∃ f : OA, ∃ j h : Nat, ap = .returned (.slice f j h) /\
 (KeepsA a3 d aw /\ (CP N_slices_Clone_Sapi_Range_api_Range #[(.slice ag am ai)] aw fun aq ax =>
 ∃ g : OA, ∃ k i : Nat, aq = .returned (.slice g k i) /\
 (KeepsA a3 d ax /\ (kSet ax ((e.add (p.toNat * 5)).add 3) (.slice f j h) fun ay =>
 (KeepsA a3 d ay /\ (kSet ay ((e.add (p.toNat * 5)).add 4) (.slice g k i) fun a7 =>
 (kW .i64 (p + (1 : Int)) fun az =>
 ((an az).2 a7 /\ (an az).1 < (an p).1)))))))))))))))))
 ((∃ t u v x y z aa ab ac ad m n : Int, ∃ o : Bool, ∃ a : OA, ∃ c b : Nat, cellsAt l ⟨ao, 0, none⟩ 0 [(Iv t), (Iv u), (Iv v), (Iv x), (Iv y), (Iv z), (Iv aa), (Iv ab), (Iv ac), (Iv ad), (Iv m), (Iv n), (.bool o), (.slice a c b)] /\
 (kAlloc l #[(Iv t), (Iv u), (Iv v), (Iv x), (Iv y), (Iv z), (Iv aa), (Iv ab), (Iv ac), (Iv ad), (Iv m), (Iv n), (.bool o), (.slice a c b)] Ty_receiver_side fun a4 au =>
 R (.pointer (some ⟨a4, 0, none⟩)) au)))))))))))
theorem F_receiver_begin_ok {R : EP} (r_0 r_1 r_2 r_3 r_4 r_5 r_6 r_7 r_8 r_9 r_10 r_11 : Int) (r_12 : Bool) (r_13_a : OA) (r_13_l r_13_c : Nat) (w : World) (h : F_receiver_begin r_0 r_1 r_2 r_3 r_4 r_5 r_6 r_7 r_8 r_9 r_10 r_11 r_12 r_13_a r_13_l r_13_c w fun v w' => R (.returned v) w') : CP N_receiver_begin #[(.agg #[Iv r_0, Iv r_1, Iv r_2, Iv r_3, Iv r_4, Iv r_5, Iv r_6, Iv r_7, Iv r_8, Iv r_9, Iv r_10, Iv r_11, .bool r_12, .slice r_13_a r_13_l r_13_c])] w R :=
 calls_of (k := TTk) (h := h_receiver_begin) (f := 73) follows_ok Tryz.func73 (Eq.mpr (by kernel_rfl) h)

def h_segment_Decode : H := (sr (.seq (.block (sr (.cond sl sc))) (.seq (.draw .no (so 0 11 .nil)) (sr (sr (.seq sc (.cut [] (rg 46 13) (sr (.cond (.draw .no (po 0 11 (lo 11 1 .nil))) .leaf)) (sr (.seq sc sl)))))))))
def F_segment_Decode (bits : Int) (b_a : OA) (b_l b_c : Nat) (w : World) (R : Value -> WP) : Prop :=
 (kAlloc w #[Iv (0 : Int), Iv (0 : Int), Iv (0 : Int), Iv (0 : Int), .slice none 0 0] Ty_api_Piece fun ab cf =>
 (CP N_counter_Bits #[(Iv bits)] cf fun ce bl =>
 ∃ cp : Bool, ce = .returned (.bool cp) /\
 (bsplit (!cp)
 ((sxStore bl ⟨ab, 0, none⟩ 0 [(Iv (0 : Int)), (Iv (0 : Int)), (Iv (0 : Int)), (Iv (0 : Int)), (.slice none 0 0)] fun bu =>
 (∃ ba bb bc bd : Int, ∃ x : OA, ∃ z y : Nat, cellsAt bu ⟨ab, 0, none⟩ 0 [(Iv ba), (Iv bb), (Iv bc), (Iv bd), (.slice x z y)] /\
 R (.tuple #[(.agg #[Iv ba, Iv bb, Iv bc, Iv bd, .slice x z y]), (Iv (3 : Int))]) bu)))
 ((kLet (decide ((b_l : Int) < (2 : Int))) fun cq =>
 (bsplit cq
 ((sxStore bl ⟨ab, 0, none⟩ 0 [(Iv (0 : Int)), (Iv (0 : Int)), (Iv (0 : Int)), (Iv (0 : Int)), (.slice none 0 0)] fun bv =>
 (∃ ac ah am ar : Int, ∃ b : OA, ∃ l g : Nat, cellsAt bv ⟨ab, 0, none⟩ 0 [(Iv ac), (Iv ah), (Iv am), (Iv ar), (.slice b l g)] /\
 R (.tuple #[(.agg #[Iv ac, Iv ah, Iv am, Iv ar, .slice b l g]), (Iv (5 : Int))]) bv)))
 ((kDrew bl fun bm =>
 (kIx b_a b_l (0 : Int) fun ca =>
 (kLd bm (ca.add ((0 : Int).toNat * 1)) .u8 fun ch =>
 (kW .i64 (ch) fun ci =>
 (kW .i64 (ci * 2 ^ 8) fun cj =>
 (kIx b_a b_l (1 : Int) fun cb =>
 (kLd bm (cb.add ((1 : Int).toNat * 1)) .u8 fun ck =>
 (kW .i64 (ck) fun cl =>
 (kLet (bOr .i64 cj cl) fun a9 =>
 (kLet (Int.fdiv a9 (2 ^ 14)) fun cm =>
 (kLet (bAnd .i64 cm (1 : Int)) fun cn =>
 (kLet (Int.fdiv a9 (2 ^ 12)) fun co =>
 (kLet (bAnd .i64 co (3 : Int)) fun bz =>
 (kLet (bAnd .i64 a9 (4095 : Int)) fun b0 =>
 (kAlloc bm #[Iv (0 : Int), Iv (0 : Int), Iv (0 : Int), Iv (0 : Int), .slice none 0 0] Ty_api_Piece fun aa cg =>
 (sxStore cg ⟨aa, 0, none⟩ 0 [(Iv b0), (Iv bz), (Iv cn), (Iv (0 : Int)), (.slice none 0 0)] fun bw =>
 (kLd bw ⟨aa, 1, none⟩ .i64 fun b1 =>
 (CP N_segment_head #[(Iv b1)] bw fun bo bn =>
 ∃ a : Int, bo = .returned (Iv a) /\
 (bsplit (decide ((b_l : Int) <= a))
 ((sxStore bn ⟨ab, 0, none⟩ 0 [(Iv (0 : Int)), (Iv (0 : Int)), (Iv (0 : Int)), (Iv (0 : Int)), (.slice none 0 0)] fun bx =>
 (∃ ad ai an au : Int, ∃ c : OA, ∃ m h : Nat, cellsAt bx ⟨ab, 0, none⟩ 0 [(Iv ad), (Iv ai), (Iv an), (Iv au), (.slice c m h)] /\
 R (.tuple #[(.agg #[Iv ad, Iv ai, Iv an, Iv au, .slice c m h]), (Iv (5 : Int))]) bx)))
 ((∃ b9 : WP,
 (∀ (_ : Env)  (bh : World), b9 bh ->
 ((0 <= a /\ a <= ((b_l : Nat) : Int)) /\ (CP N_slices_Clone_Sbyte_byte #[(.slice (slAddr b_c (a.toNat) 1 b_a) (b_l - a.toNat) (b_c - a.toNat))] bh fun bp bt =>
 ∃ be : OA, ∃ bg bf : Nat, bp = .returned (.slice be bg bf) /\
 (kSet bt ⟨aa, 4, none⟩ (.slice be bg bf) fun az =>
 (kLet (Int.fdiv a9 (2 ^ 15)) fun b8 =>
 (bsplit (decide (b8 = (0 : Int)))
 ((sxStore az ⟨ab, 0, none⟩ 0 [(Iv (0 : Int)), (Iv (0 : Int)), (Iv (0 : Int)), (Iv (0 : Int)), (.slice none 0 0)] fun bi =>
 (∃ ae aj ao av : Int, ∃ d : OA, ∃ n i : Nat, cellsAt bi ⟨ab, 0, none⟩ 0 [(Iv ae), (Iv aj), (Iv ao), (Iv av), (.slice d n i)] /\
 R (.tuple #[(.agg #[Iv ae, Iv aj, Iv ao, Iv av, .slice d n i]), (Iv (4 : Int))]) bi)))
 ((∃ a1 a3 a5 a7 : Int, ∃ q : OA, ∃ u s : Nat, cellsAt az ⟨aa, 0, none⟩ 0 [(Iv a1), (Iv a3), (Iv a5), (Iv a7), (.slice q u s)] /\
 (CP N_segment_Valid #[(Iv bits), (.agg #[Iv a1, Iv a3, Iv a5, Iv a7, .slice q u s])] az fun bq a0 =>
 ∃ br : Bool, bq = .returned (.bool br) /\
 (bsplit (!br)
 ((sxStore a0 ⟨ab, 0, none⟩ 0 [(Iv (0 : Int)), (Iv (0 : Int)), (Iv (0 : Int)), (Iv (0 : Int)), (.slice none 0 0)] fun bj =>
 (∃ af ak ap aw : Int, ∃ e : OA, ∃ o j : Nat, cellsAt bj ⟨ab, 0, none⟩ 0 [(Iv af), (Iv ak), (Iv ap), (Iv aw), (.slice e o j)] /\
 R (.tuple #[(.agg #[Iv af, Iv ak, Iv ap, Iv aw, .slice e o j]), (Iv (4 : Int))]) bj)))
 ((∃ a2 a4 a6 a8 : Int, ∃ r : OA, ∃ v t : Nat, cellsAt a0 ⟨aa, 0, none⟩ 0 [(Iv a2), (Iv a4), (Iv a6), (Iv a8), (.slice r v t)] /\
 (sxStore a0 ⟨ab, 0, none⟩ 0 [(Iv a2), (Iv a4), (Iv a6), (Iv a8), (.slice r v t)] fun bk =>
 (∃ ag al aq ax : Int, ∃ f : OA, ∃ p k : Nat, cellsAt bk ⟨ab, 0, none⟩ 0 [(Iv ag), (Iv al), (Iv aq), (Iv ax), (.slice f p k)] /\
 R (.tuple #[(.agg #[Iv ag, Iv al, Iv aq, Iv ax, .slice f p k]), (Iv (0 : Int))]) bk)))))))))))))) /\
 (bsplit (decide (a = (4 : Int)))
 ((kDrew bn fun ay =>
 (kIx b_a b_l (2 : Int) fun cc =>
 (kLd ay (cc.add ((2 : Int).toNat * 1)) .u8 fun b2 =>
 (kW .i64 (b2) fun b3 =>
 (kW .i64 (b3 * 2 ^ 8) fun b4 =>
 (kIx b_a b_l (3 : Int) fun cd =>
 (kLd ay (cd.add ((3 : Int).toNat * 1)) .u8 fun b5 =>
 (kW .i64 (b5) fun b6 =>
 (kLet (bOr .i64 b4 b6) fun b7 =>
 (kSet ay ⟨aa, 3, none⟩ (Iv b7) fun bs =>
 b9 bs)))))))))))
 (b9 bn))))))))))))))))))))))))))))))
theorem F_segment_Decode_ok {R : EP} (bits : Int) (b_a : OA) (b_l b_c : Nat) (w : World) (h : F_segment_Decode bits b_a b_l b_c w fun v w' => R (.returned v) w') : CP N_segment_Decode #[(Iv bits), (.slice b_a b_l b_c)] w R :=
 calls_of (k := TTk) (h := h_segment_Decode) (f := 74) follows_ok Tryz.func74 (Eq.mpr (by kernel_rfl) h)

def h_segment_Ends : H := (sr sl)
def F_segment_Ends (part : Int) (w : World) (R : Value -> WP) : Prop :=
 (bsplit (decide (part = (0 : Int)))
 (R (.bool true) w)
 ((kLet (decide (part = (2 : Int))) fun a =>
 R (.bool a) w)))
theorem F_segment_Ends_ok {R : EP} (part : Int) (w : World) (h : F_segment_Ends part w fun v w' => R (.returned v) w') : CP N_segment_Ends #[(Iv part)] w R :=
 calls_of (k := TTk) (h := h_segment_Ends) (f := 75) follows_ok Tryz.func75 (Eq.mpr (by kernel_rfl) h)

def h_slices_BinarySearchFunc_Sapi_Partial_api_Partial_int : H := (sr (sr (sr (.seq (.block (.loop [(9, .p (.int .i64)), (10, .p (.int .i64))] ([9, 10, 11] ++ rg 15 20) (.seq (sr (.cond .leaf .leaf)) (.block (sr (sr (.cond .reg .reg))))))) sl))))
def F_slices_BinarySearchFunc_Sapi_Partial_api_Partial_int (x_a : OA) (x_l _ : Nat) (target : Int) (cmp_g : Nat) (cmp_f : Array Value) (cmp_c : Array Value) (w : World) (R : Value -> WP) : Prop :=
 (∃ s : Int -> Int -> Nat × (WP), (s (0 : Int) (x_l : Int)).2 w /\
 (∀ (_ : Env) (n : Int) (x : Int) (m : World), (s n x).2 m ->
 (bsplit (decide (n < x))
 ((kW .i64 (n + x) fun ak =>
 (kW .u64 (ak) fun af =>
 (kLet (Int.fdiv af (2 ^ 1)) fun ag =>
 (kW .i64 (ag) fun o =>
 (kIx x_a x_l o fun aj =>
 (∃ t : Int, ∃ u : Bool, ∃ v : Int, ∃ g : OA, ∃ i h : Nat, ∃ j : OA, ∃ l k : Nat, cellsAt m (aj.add (o.toNat * 5)) 0 [(Iv t), (.bool u), (Iv v), (.slice g i h), (.slice j l k)] /\
 (okFn Tryz.prog cmp_g = true /\ CP cmp_g (cmp_f ++ #[(.agg #[Iv t, .bool u, Iv v, .slice g i h, .slice j l k]), (Iv target)] ++ cmp_c) m fun ad aa =>
 ∃ ai : Int, ad = .returned (Iv ai) /\
 (bsplit (decide (ai < (0 : Int)))
 ((kW .i64 (o + (1 : Int)) fun ab =>
 ((s ab x).2 aa /\ (s ab x).1 < (s n x).1)))
 (((s n o).2 aa /\ (s n o).1 < (s n x).1)))))))))))
 ((bsplit (decide (n < (x_l : Int)))
 ((kIx x_a x_l n fun ac =>
 (∃ p : Int, ∃ q : Bool, ∃ r : Int, ∃ a : OA, ∃ c b : Nat, ∃ d : OA, ∃ f e : Nat, cellsAt m (ac.add (n.toNat * 5)) 0 [(Iv p), (.bool q), (Iv r), (.slice a c b), (.slice d f e)] /\
 (okFn Tryz.prog cmp_g = true /\ CP cmp_g (cmp_f ++ #[(.agg #[Iv p, .bool q, Iv r, .slice a c b, .slice d f e]), (Iv target)] ++ cmp_c) m fun y ae =>
 ∃ z : Int, y = .returned (Iv z) /\
 (kLet (decide (z = (0 : Int))) fun ah =>
 R (.tuple #[(Iv n), (.bool ah)]) ae)))))
 (R (.tuple #[(Iv n), (.bool false)]) m))))))
theorem F_slices_BinarySearchFunc_Sapi_Partial_api_Partial_int_ok {R : EP} (x_a : OA) (x_l x_c : Nat) (target : Int) (cmp_g : Nat) (cmp_f : Array Value) (cmp_c : Array Value) (w : World) (h : F_slices_BinarySearchFunc_Sapi_Partial_api_Partial_int x_a x_l x_c target cmp_g cmp_f cmp_c w fun v w' => R (.returned v) w') : CP N_slices_BinarySearchFunc_Sapi_Partial_api_Partial_int #[(.slice x_a x_l x_c), (Iv target), (.func (.func cmp_g) cmp_f cmp_c)] w R :=
 calls_of (k := TTk) (h := h_slices_BinarySearchFunc_Sapi_Partial_api_Partial_int) (f := 76) follows_ok Tryz.func76 (Eq.mpr (by kernel_rfl) h)

def h_receiver_side_place : H := (sr (.seq (.draw .blk (po 0 12 (ko 12 1 (so 13 1 .nil)))) .leaf))
def F_receiver_side_place (s_b s_o : Nat) (n : Int) (w : World) (R : Value -> WP) : Prop :=
 (kDrew w fun a =>
 (∃ f : Nat -> Prop,
 (kLd a ⟨s_b, s_o, none⟩ .i64 fun g =>
 (kLd a ⟨s_b, s_o + 6, none⟩ .i64 fun d =>
 (CP N_serial_Distance #[(Iv g), (Iv d), (Iv n)] a fun c b =>
 ∃ e : Int, c = .returned (Iv e) /\
 (KeepsB f a b /\ R (Iv e) b))))))
theorem F_receiver_side_place_ok {R : EP} (s_b s_o : Nat) (n : Int) (w : World) (h : F_receiver_side_place s_b s_o n w fun v w' => R (.returned v) w') : CP N_receiver_side_place #[(.pointer (some ⟨s_b, s_o, none⟩)), (Iv n)] w R :=
 calls_of (k := TTk) (h := h_receiver_side_place) (f := 77) follows_ok Tryz.func77 (Eq.mpr (by kernel_rfl) h)

def h_receiver_Receive_1 : H := (sr sl)
def F_receiver_Receive_1 (x_0 : Int) (x_1 : Bool) (x_2 : Int) (x_3_a : OA) (x_3_l x_3_c : Nat) (x_4_a : OA) (x_4_l x_4_c : Nat) (n : Int) (cap0_b cap0_o : Nat) (w : World) (R : Value -> WP) : Prop :=
 (kAlloc w #[(Iv x_0), (.bool x_1), (Iv x_2), (.slice x_3_a x_3_l x_3_c), (.slice x_4_a x_4_l x_4_c)] Ty_api_Partial fun h a =>
 (∃ g : OA, a.cell? ⟨cap0_b, cap0_o, none⟩ = some (.pointer g) /\
 (kLd a ⟨h, 0, none⟩ .i64 fun d =>
 (CP N_receiver_side_place #[(.pointer g), (Iv d)] a fun b c =>
 ∃ f : Int, b = .returned (Iv f) /\
 (kW .i64 (f - n) fun e =>
 R (Iv e) c)))))
theorem F_receiver_Receive_1_ok {R : EP} (x_0 : Int) (x_1 : Bool) (x_2 : Int) (x_3_a : OA) (x_3_l x_3_c : Nat) (x_4_a : OA) (x_4_l x_4_c : Nat) (n : Int) (cap0_b cap0_o : Nat) (w : World) (h : F_receiver_Receive_1 x_0 x_1 x_2 x_3_a x_3_l x_3_c x_4_a x_4_l x_4_c n cap0_b cap0_o w fun v w' => R (.returned v) w') : CP N_receiver_Receive_1 #[(.agg #[Iv x_0, .bool x_1, Iv x_2, .slice x_3_a x_3_l x_3_c, .slice x_4_a x_4_l x_4_c]), (Iv n), (.pointer (some ⟨cap0_b, cap0_o, none⟩))] w R :=
 calls_of (k := TTk) (h := h_receiver_Receive_1) (f := 78) follows_ok Tryz.func78 (Eq.mpr (by kernel_rfl) h)

def h_receiver_side_refused : H := (sr (.seq (.block (.seq (.draw .blk (po 0 4 (so 5 8 (ko 4 1 (so 13 2 .nil))))) (.cond sl (sr (.cond sl (sr (.cond sl (.seq (.draw .blk (po 0 9 (ko 9 1 (so 10 1 .nil)))) (.cond sl (.seq (.draw .blk (po 0 9 (ko 9 1 (so 10 1 .nil)))) (.cond sl .leaf))))))))))) sl))
def F_receiver_side_refused (s_b s_o : Nat) (p_0 p_1 p_2 p_3 : Int) (p_4_a : OA) (p_4_l p_4_c : Nat) (p_5 : Int) (p_6 : Bool) (at1 : Int) (found : Bool) (w : World) (R : Value -> WP) : Prop :=
 (kAlloc w #[(Iv p_0), (Iv p_1), (Iv p_2), (Iv p_3), (.slice p_4_a p_4_l p_4_c), (Iv p_5), (.bool p_6)] Ty_receiver_piece fun a6 bb =>
 (kDrew bb fun ai =>
 (∃ bg : Nat -> Prop,
 (kLd ai ⟨a6, 0, none⟩ .i64 fun bi =>
 (bg s_b /\
 (kLd ai ⟨s_b, s_o, none⟩ .i64 fun bc =>
 (kW .i64 (bc - (1 : Int)) fun a1 =>
 (0 <= a1 /\ (kW .i64 ((1 : Int) * 2 ^ (min a1.toNat (IntKind.bits .i64))) fun bd =>
 (CP N_receiver_side_place #[(.pointer (some ⟨s_b, s_o, none⟩)), (Iv bi)] ai fun ba m =>
 ∃ bh : Int, ba = .returned (Iv bh) /\
 (KeepsB bg ai m /\ (kLet (decide (bh >= bd)) fun be =>
 (bsplit be
 (R (Iv (11 : Int)) m)
 ((bsplit (!found)
 (R (Iv (0 : Int)) m)
 ((kLdS m ⟨s_b, s_o + 13, none⟩ fun a2 a3 _ =>
 (kIx a2 a3 at1 fun a7 =>
 (kLdB m ((a7.add (at1.toNat * 5)).add 1) fun bf =>
 (bsplit bf
 (R (Iv (12 : Int)) m)
 ((kDrew m fun t =>
 (∃ a4 : Nat -> Prop,
 (∃ aj ak al am : Int, ∃ q : OA, ∃ s r : Nat, ∃ an : Int, ∃ ao : Bool, cellsAt t ⟨a6, 0, none⟩ 0 [(Iv aj), (Iv ak), (Iv al), (Iv am), (.slice q s r), (Iv an), (.bool ao)] /\
 (kLdS t ⟨s_b, s_o + 13, none⟩ fun ar av _ =>
 (kIx ar av at1 fun a8 =>
 (∃ v : Int, ∃ z : Bool, ∃ ac : Int, ∃ n : OA, ∃ p o : Nat, ∃ d : OA, ∃ j g : Nat, cellsAt t (a8.add (at1.toNat * 5)) 0 [(Iv v), (.bool z), (Iv ac), (.slice n p o), (.slice d j g)] /\
 (CP N_receiver_piece_contradicts #[(.agg #[Iv aj, Iv ak, Iv al, Iv am, .slice q s r, Iv an, .bool ao]), (.agg #[Iv v, .bool z, Iv ac, .slice n p o, .slice d j g])] t fun ax ap =>
 ∃ az : Bool, ax = .returned (.bool az) /\
 (KeepsB a4 t ap /\ (bsplit az
 (R (Iv (4 : Int)) ap)
 ((kDrew ap fun u =>
 (∃ a5 : Nat -> Prop,
 (∃ x aa ad af : Int, ∃ e : OA, ∃ k h : Nat, ∃ ag : Int, ∃ ah : Bool, cellsAt u ⟨a6, 0, none⟩ 0 [(Iv x), (Iv aa), (Iv ad), (Iv af), (.slice e k h), (Iv ag), (.bool ah)] /\
 (kLdS u ⟨s_b, s_o + 13, none⟩ fun au aw _ =>
 (kIx au aw at1 fun a9 =>
 (∃ y : Int, ∃ ab : Bool, ∃ ae : Int, ∃ a : OA, ∃ c b : Nat, ∃ f : OA, ∃ l i : Nat, cellsAt u (a9.add (at1.toNat * 5)) 0 [(Iv y), (.bool ab), (Iv ae), (.slice a c b), (.slice f l i)] /\
 (CP N_receiver_piece_known #[(.agg #[Iv x, Iv aa, Iv ad, Iv af, .slice e k h, Iv ag, .bool ah]), (.agg #[Iv y, .bool ab, Iv ae, .slice a c b, .slice f l i])] u fun ay aq =>
 ∃ a0 : Bool, ay = .returned (.bool a0) /\
 (KeepsB a5 u aq /\ (bsplit a0
 (R (Iv (12 : Int)) aq)
 (R (Iv (0 : Int)) aq)))))))))))))))))))))))))))))))))))))))))
theorem F_receiver_side_refused_ok {R : EP} (s_b s_o : Nat) (p_0 p_1 p_2 p_3 : Int) (p_4_a : OA) (p_4_l p_4_c : Nat) (p_5 : Int) (p_6 : Bool) (at1 : Int) (found : Bool) (w : World) (h : F_receiver_side_refused s_b s_o p_0 p_1 p_2 p_3 p_4_a p_4_l p_4_c p_5 p_6 at1 found w fun v w' => R (.returned v) w') : CP N_receiver_side_refused #[(.pointer (some ⟨s_b, s_o, none⟩)), (.agg #[Iv p_0, Iv p_1, Iv p_2, Iv p_3, .slice p_4_a p_4_l p_4_c, Iv p_5, .bool p_6]), (Iv at1), (.bool found)] w R :=
 calls_of (k := TTk) (h := h_receiver_side_refused) (f := 79) follows_ok Tryz.func79 (Eq.mpr (by kernel_rfl) h)

def h_receiver_side_poll : H := (sr (sr (.cond .reg .leaf)))
def F_receiver_side_poll (s_b s_o : Nat) (p_0 p_1 p_2 p_3 : Int) (p_4_a : OA) (p_4_l p_4_c : Nat) (w : World) (R : Value -> WP) : Prop :=
 (kAlloc w #[(Iv p_0), (Iv p_1), (Iv p_2), (Iv p_3), (.slice p_4_a p_4_l p_4_c)] Ty_api_Piece fun e a =>
 (kLd a ⟨e, 2, none⟩ .i64 fun f =>
 (bsplit (decide (f = (1 : Int)))
 ((kLd a ⟨s_b, s_o + 7, none⟩ .i64 fun d =>
 (kSet a ⟨s_b, s_o + 12, none⟩ (.bool true) fun b =>
 (kSet b ⟨s_b, s_o + 8, none⟩ (Iv d) fun c =>
 R (.tuple #[]) c))))
 (R (.tuple #[]) a))))
theorem F_receiver_side_poll_ok {R : EP} (s_b s_o : Nat) (p_0 p_1 p_2 p_3 : Int) (p_4_a : OA) (p_4_l p_4_c : Nat) (w : World) (h : F_receiver_side_poll s_b s_o p_0 p_1 p_2 p_3 p_4_a p_4_l p_4_c w fun v w' => R (.returned v) w') : CP N_receiver_side_poll #[(.pointer (some ⟨s_b, s_o, none⟩)), (.agg #[Iv p_0, Iv p_1, Iv p_2, Iv p_3, .slice p_4_a p_4_l p_4_c])] w R :=
 calls_of (k := TTk) (h := h_receiver_side_poll) (f := 80) follows_ok Tryz.func80 (Eq.mpr (by kernel_rfl) h)

def h_slices_Insert_Sapi_Partial_api_Partial : H := (sr (sr (sr (.seq sc (sr (.seq sc (.seq (sr (.cond (sr (sr (.seq (.draw .no (po 0 8 (lo 8 1 .nil))) sl))) .leaf)) (sr (.seq (sr (.cond (.seq (.draw .no (po 0 8 (lo 8 1 .nil))) (sr sl)) .leaf)) (sr (sr sl)))))))))))
def F_slices_Insert_Sapi_Partial_api_Partial (s_a : OA) (s_l s_c : Nat) (i : Int) (v_a : OA) (v_l v_c : Nat) (w : World) (R : Value -> WP) : Prop :=
 ((0 <= i /\ i <= ((s_l : Nat) : Int)) /\ (bsplit (decide ((v_l : Int) = (0 : Int)))
 (R (.slice s_a s_l s_c) w)
 ((bsplit (decide (i = (s_l : Int)))
 ((AppP Tryz.prog #[Ty_S_api_Partial, Ty_S_api_Partial] Ty_S_api_Partial #[(.slice s_a s_l s_c), (.slice v_a v_l v_c)] w fun m o n q =>
 R (.slice m o n) q))
 ((kW .i64 ((s_l : Int) + (v_l : Int)) fun ac =>
 (bsplit (decide (ac > (s_c : Int)))
 (((0 <= i /\ i <= ((s_c : Nat) : Int)) /\ (kW .i64 ((s_l : Int) + (v_l : Int)) fun z =>
 (kW .i64 (z - i) fun aa =>
 (AppP Tryz.prog #[Ty_S_api_Partial, Ty_int] Ty_S_api_Partial #[(.slice (slAddr s_c 0 5 s_a) (i.toNat - 0) (s_c - 0)), (Iv aa)] w fun d c b r =>
 ((0 <= i /\ i <= ((c : Nat) : Int)) /\ (CopyP Tryz.prog #[Ty_S_api_Partial, Ty_S_api_Partial] Ty_int #[(.slice (slAddr b (i.toNat) 5 d) (c - i.toNat) (b - i.toNat)), (.slice v_a v_l v_c)] r fun _ s =>
 (kDrew s fun t =>
 (kW .i64 (i + (v_l : Int)) fun e =>
 ((0 <= e /\ e <= ((c : Nat) : Int)) /\ ((0 <= i /\ i <= ((s_l : Nat) : Int)) /\ (CopyP Tryz.prog #[Ty_S_api_Partial, Ty_S_api_Partial] Ty_int #[(.slice (slAddr b (e.toNat) 5 d) (c - e.toNat) (b - e.toNat)), (.slice (slAddr s_c (i.toNat) 5 s_a) (s_l - i.toNat) (s_c - i.toNat))] t fun _ u =>
 R (.slice d c b) u))))))))))))
 ((kW .i64 ((s_l : Int) + (v_l : Int)) fun a =>
 ((0 <= a /\ a <= ((s_c : Nat) : Int)) /\ (kW .i64 (i + (v_l : Int)) fun f =>
 ((0 <= f /\ f <= (((a.toNat - 0) : Nat) : Int)) /\ (ExtC Tryz.prog N_slices_overlaps_api_Partial #[(.slice v_a v_l v_c), (.slice (slAddr (s_c - 0) (f.toNat) 5 (slAddr s_c 0 5 s_a)) ((a.toNat - 0) - f.toNat) ((s_c - 0) - f.toNat))] w fun p l =>
 ∃ ab : Bool, p = .returned (.bool ab) /\
 (bsplit (!ab)
 ((kDrew l fun v =>
 (kW .i64 (i + (v_l : Int)) fun g =>
 ((0 <= g /\ g <= (((a.toNat - 0) : Nat) : Int)) /\ ((0 <= i /\ i <= (((a.toNat - 0) : Nat) : Int)) /\ (CopyP Tryz.prog #[Ty_S_api_Partial, Ty_S_api_Partial] Ty_int #[(.slice (slAddr (s_c - 0) (g.toNat) 5 (slAddr s_c 0 5 s_a)) ((a.toNat - 0) - g.toNat) ((s_c - 0) - g.toNat)), (.slice (slAddr (s_c - 0) (i.toNat) 5 (slAddr s_c 0 5 s_a)) ((a.toNat - 0) - i.toNat) ((s_c - 0) - i.toNat))] v fun _ x =>
 ((0 <= i /\ i <= (((a.toNat - 0) : Nat) : Int)) /\ (CopyP Tryz.prog #[Ty_S_api_Partial, Ty_S_api_Partial] Ty_int #[(.slice (slAddr (s_c - 0) (i.toNat) 5 (slAddr s_c 0 5 s_a)) ((a.toNat - 0) - i.toNat) ((s_c - 0) - i.toNat)), (.slice v_a v_l v_c)] x fun _ y =>
 R (.slice (slAddr s_c 0 5 s_a) (a.toNat - 0) (s_c - 0)) y))))))))
 (((0 <= (s_l : Int) /\ (s_l : Int) <= (((a.toNat - 0) : Nat) : Int)) /\ (CopyP Tryz.prog #[Ty_S_api_Partial, Ty_S_api_Partial] Ty_int #[(.slice (slAddr (s_c - 0) ((s_l : Int).toNat) 5 (slAddr s_c 0 5 s_a)) ((a.toNat - 0) - (s_l : Int).toNat) ((s_c - 0) - (s_l : Int).toNat)), (.slice v_a v_l v_c)] l fun _ j =>
 ((0 <= i /\ i <= (((a.toNat - 0) : Nat) : Int)) /\ (CP N_slices_rotateRight_api_Partial #[(.slice (slAddr (s_c - 0) (i.toNat) 5 (slAddr s_c 0 5 s_a)) ((a.toNat - 0) - i.toNat) ((s_c - 0) - i.toNat)), (Iv (v_l : Int))] j fun h k =>
 h = .returned (.tuple #[]) /\
 R (.slice (slAddr s_c 0 5 s_a) (a.toNat - 0) (s_c - 0)) k)))))))))))))))))))
theorem F_slices_Insert_Sapi_Partial_api_Partial_ok {R : EP} (s_a : OA) (s_l s_c : Nat) (i : Int) (v_a : OA) (v_l v_c : Nat) (w : World) (h : F_slices_Insert_Sapi_Partial_api_Partial s_a s_l s_c i v_a v_l v_c w fun v w' => R (.returned v) w') : CP N_slices_Insert_Sapi_Partial_api_Partial #[(.slice s_a s_l s_c), (Iv i), (.slice v_a v_l v_c)] w R :=
 calls_of (k := TTk) (h := h_slices_Insert_Sapi_Partial_api_Partial) (f := 81) follows_ok Tryz.func81 (Eq.mpr (by kernel_rfl) h)

def h_receiver_side_behind : H := (sr sl)
def F_receiver_side_behind (s_b s_o : Nat) (n : Int) (w : World) (R : Value -> WP) : Prop :=
 (kLd w ⟨s_b, s_o, none⟩ .i64 fun e =>
 (kW .i64 (n + (1 : Int)) fun c =>
 (CP N_serial_Low #[(Iv e), (Iv c)] w fun a b =>
 ∃ d : Int, a = .returned (Iv d) /\
 R (Iv d) b)))
theorem F_receiver_side_behind_ok {R : EP} (s_b s_o : Nat) (n : Int) (w : World) (h : F_receiver_side_behind s_b s_o n w fun v w' => R (.returned v) w') : CP N_receiver_side_behind #[(.pointer (some ⟨s_b, s_o, none⟩)), (Iv n)] w R :=
 calls_of (k := TTk) (h := h_receiver_side_behind) (f := 82) follows_ok Tryz.func82 (Eq.mpr (by kernel_rfl) h)

def h_receiver_piece_put : H := (sr (.cut [] (rg 4 20) (.seq (.draw .no (uo 0 1 (so 1 1 (uo 2 3 (so 5 1 (uo 6 3 .nil)))))) (sr (.cond .reg .leaf))) (.seq (.draw .no (uo 0 3 (po 3 1 (uo 4 2 (po 6 1 (uo 7 3 (po 10 1 (lo 11 1 .nil)))))))) (.seq (.draw .blk (uo 0 4 (so 4 1 (uo 5 2 (po 7 1 (uo 8 2 (po 10 1 (uo 11 1 (po 12 1 (ko 13 1 (lo 14 1 (uo 15 5 (lo 20 1 .nil))))))))))))) (sr (.cond .reg .leaf))))))
def F_receiver_piece_put (p_0 p_1 p_2 p_3 : Int) (p_4_a : OA) (p_4_l p_4_c : Nat) (p_5 : Int) (p_6 : Bool) (x_b x_o : Nat) (w : World) (R : Value -> WP) : Prop :=
 (kAlloc w #[(Iv p_0), (Iv p_1), (Iv p_2), (Iv p_3), (.slice p_4_a p_4_l p_4_c), (Iv p_5), (.bool p_6)] Ty_receiver_piece fun h af =>
 (∃ ad : WP,
 (∀ (_ : Env)  (aa : World), ad aa ->
 (kDrew aa fun g =>
 (kLdS g ⟨x_b, x_o + 3, none⟩ fun n f e =>
 (kLd g ⟨h, 3, none⟩ .i64 fun d =>
 ((0 <= d /\ d <= ((f : Nat) : Int)) /\ (kLdS g ⟨h, 4, none⟩ fun o x s =>
 (CopyP Tryz.prog #[Ty_S_uint8, Ty_S_uint8] Ty_int #[(.slice (slAddr e (d.toNat) 1 n) (f - d.toNat) (e - d.toNat)), (.slice o x s)] g fun _ ai =>
 (kDrew ai fun a =>
 (∃ ap : Nat -> Prop,
 (ap x_b /\
 (kLdS a ⟨x_b, x_o + 4, none⟩ fun p y t =>
 (kLd a ⟨h, 0, none⟩ .i64 fun ak =>
 (kLd a ⟨h, 3, none⟩ .i64 fun al =>
 (kLd a ⟨h, 5, none⟩ .i64 fun am =>
 (KeepsB ap a a /\ (CP N_segment_Union #[(.slice p y t), (.agg #[Iv ak, Iv al, Iv am])] a fun ae aj =>
 ∃ i : OA, ∃ k j : Nat, ∃ aq : Int, ae = .returned (.tuple #[(.slice i k j), (Iv aq)]) /\
 (kSet aj ⟨x_b, x_o + 4, none⟩ (.slice i k j) fun b =>
 (kLdB b ⟨h, 6, none⟩ fun an =>
 (bsplit an
 ((kLd b ⟨h, 5, none⟩ .i64 fun ao =>
 (kSet b ⟨x_b, x_o + 2, none⟩ (Iv ao) fun z =>
 R (.tuple #[]) z)))
 (R (.tuple #[]) b)))))))))))))))))))) /\
 (kDrew af fun c =>
 (kLd c ⟨h, 5, none⟩ .i64 fun ar =>
 (kLdS c ⟨x_b, x_o + 3, none⟩ fun _ ac _ =>
 (kW .i64 (ar - (ac : Int)) fun ab =>
 (bsplit (decide (ab > (0 : Int)))
 ((kLdS c ⟨x_b, x_o + 3, none⟩ fun l u q =>
 (AppP Tryz.prog #[Ty_S_uint8, Ty_int] Ty_S_uint8 #[(.slice l u q), (Iv ab)] c fun m v r ag =>
 (kSet ag ⟨x_b, x_o + 3, none⟩ (.slice m v r) fun ah =>
 ad ah))))
 (ad c))))))))
theorem F_receiver_piece_put_ok {R : EP} (p_0 p_1 p_2 p_3 : Int) (p_4_a : OA) (p_4_l p_4_c : Nat) (p_5 : Int) (p_6 : Bool) (x_b x_o : Nat) (w : World) (h : F_receiver_piece_put p_0 p_1 p_2 p_3 p_4_a p_4_l p_4_c p_5 p_6 x_b x_o w fun v w' => R (.returned v) w') : CP N_receiver_piece_put #[(.agg #[Iv p_0, Iv p_1, Iv p_2, Iv p_3, .slice p_4_a p_4_l p_4_c, Iv p_5, .bool p_6]), (.pointer (some ⟨x_b, x_o, none⟩))] w R :=
 calls_of (k := TTk) (h := h_receiver_piece_put) (f := 83) follows_ok Tryz.func83 (Eq.mpr (by kernel_rfl) h)

end Go.Proofs.YtmbppohkadmjgaaGreat
