import Derived.Test.YtlgolgpellbnbaaGreatBase
import Derived.KernelRfl
namespace Go.Proofs.YtlgolgpellbnbaaGreat
open Go.Sx Go.RowKit
set_option maxRecDepth 100000

def h_law23_UnackRuns : H := (.seq .reg (.seq (.seq .reg (.cond (.seq .reg .leaf) .leaf)) (.seq .reg (.seq .reg (.seq (.seq .reg (.block (.loop [(7, .p (.int .i64))] [2, 7, 8, 9, 10, 11, 12, 13, 14, 15, 16, 17, 18, 19, 20, 21, 39, 40, 41, 42, 43, 44, 45, 46, 47, 48, 49, 50, 51, 52, 53, 54, 55, 56, 57, 58, 59, 60, 61, 62, 63, 64, 65, 66, 67, 68, 69, 70, 71, 72, 73, 74, 75, 76, 77, 78, 79, 80, 81, 82, 83, 84, 85, 86, 87, 88, 89, 90, 91, 92, 93, 94, 95, 96, 97, 98, 99, 100, 101, 102, 103, 104, 105, 106, 107, 108, 109, 110, 111, 112, 113, 114, 115, 116, 117, 118, 119, 120, 121, 122, 123, 124, 125, 126, 127, 128, 129, 130, 131, 132, 133, 134, 135, 136, 137, 138, 139, 140, 141, 142, 143, 144, 145, 146, 147, 148, 149, 150, 151] (.cut [] [39, 40, 41, 42, 43, 44, 45] (.seq .reg (.cond .leaf .leaf)) (.cut [] [2, 8, 9, 10, 11, 12, 13, 14, 15, 16, 17, 18, 19, 20, 21, 48, 49, 50, 51, 52, 53, 54, 55, 56, 57, 58, 59, 60, 61, 62, 63, 64, 65, 66, 67, 68, 69, 70, 71, 72, 73, 74, 75, 76, 77, 78, 79, 80, 81, 82, 83, 84, 85, 86, 87, 88, 89, 90, 91, 92, 93, 94, 95, 96, 97, 98, 99, 100, 101, 102, 103, 104, 105, 106, 107, 108, 109, 110, 111, 112, 113, 114, 115, 116, 117, 118, 119, 120, 121, 122, 123, 124, 125, 126, 127, 128, 129, 130, 131, 132, 133, 134, 135, 136, 137, 138, 139, 140, 141, 142, 143, 144, 145, 146, 147, 148, 149, 150, 151] (.block (.seq .reg (.seq (.seq .reg (.cond (.seq .reg .leaf) .leaf)) (.seq .reg (.block (.seq .reg (.cond .reg (.seq .reg (.cond (.seq .reg (.seq .reg (.seq (.seq .reg (.cond (.seq .reg .leaf) .leaf)) .reg))) (.seq .reg (.seq (.seq .reg (.cond (.seq .reg .leaf) .leaf)) (.seq .reg (.seq (.seq .reg (.cond .leaf .leaf)) (.cut [] [81, 82, 83, 84, 85, 86, 87, 88, 89, 90, 91] (.seq .reg (.cond .reg .leaf)) (.seq .reg (.seq .reg (.seq (.seq .reg (.cond (.seq .reg .leaf) .leaf)) .reg))))))))))))))))) .reg))))) (.seq .reg .leaf))))))
def F_law23_UnackRuns (l_a : OA) (l_l : Nat) (l_c : Nat) (w : World) (R : Value → WP) : Prop :=
 (CP N_roll_Light #[(.slice l_a l_l l_c)] w fun k7 kf =>
 ∃ lo : Bool, k7 = .returned (.bool lo) ∧
 (bsplit (!lo)
 ((CP N_law23_awake #[] kf fun jx k9 =>
 ∃ j6 : Bool, jx = .returned (.bool j6) ∧
 R (.bool j6) k9))
 ((CP N_roll_Roll #[(.slice l_a l_l l_c)] kf fun jy la =>
 ∃ l : OA, jy = .returned (.pointer l) ∧
 (CP N_roll_Dice_Next #[(.pointer l), (Iv (2 : Int))] la fun jz lb =>
 ∃ j9 : Int, jz = .returned (Iv j9) ∧
 (kW .i64 ((5 : Int) + j9) fun lp =>
 (CP N_roll_Dice_Next #[(.pointer l), (Iv (4 : Int))] lb fun j0 lc =>
 ∃ ka : Int, j0 = .returned (Iv ka) ∧
 (kW .i64 ((1 : Int) + ka) fun lh =>
 (CP N_ref23_New #[(Iv lp), (Iv lh)] lc fun j1 ld =>
 ∃ ie ig : Int, ∃ cb : OA, ∃ cd cc : Nat, ∃ ii ed em ih ez ij ik il im io ip el b2 : Int, ∃ en : Bool, ∃ au : OA, ∃ aw av : Nat, ∃ k8 : Int, j1 = .returned (.tuple #[(.agg #[Iv ie, Iv ig, .slice cb cd cc, Iv ii]), (.agg #[Iv ed, Iv em, Iv ih, Iv ez, Iv ij, Iv ik, Iv il, Iv im, Iv io, Iv ip, Iv el, Iv b2, .bool en, .slice au aw av]), (Iv k8)]) ∧
 (kAlloc ld #[Iv (0 : Int), Iv (0 : Int), .slice none 0 0, Iv (0 : Int)] Ty_api_Cutter fun h2 le =>
 (kAlloc le #[Iv (0 : Int), Iv (0 : Int), Iv (0 : Int), Iv (0 : Int), Iv (0 : Int), Iv (0 : Int), Iv (0 : Int), Iv (0 : Int), Iv (0 : Int), Iv (0 : Int), Iv (0 : Int), Iv (0 : Int), .bool false, .slice none 0 0] Ty_api_Receiver fun bv lf =>
 (sxStore lf ⟨h2, 0, none⟩ 0 [(Iv ie), (Iv ig), (.slice cb cd cc), (Iv ii)] fun lg =>
 (sxStore lg ⟨bv, 0, none⟩ 0 [(Iv ed), (Iv em), (Iv ih), (Iv ez), (Iv ij), (Iv ik), (Iv il), (Iv im), (Iv io), (Iv ip), (Iv el), (Iv b2), (.bool en), (.slice au aw av)] fun kg =>
 (∃ jt : Int → Nat × (WP), (jt (0 : Int)).2 kg ∧
 (∀ (_ : Env) (k4 : Int) (f1 : World), (jt k4).2 f1 →
 (∃ ln : WP,
 (∀ (_ : Env)  (ir : World), ln ir →
 (∃ ea : WP,
 (∀ (_ : Env)  (iz : World), ea iz →
 (kW .i64 (k4 + (1 : Int)) fun k3 =>
 ((jt k3).2 iz ∧ (jt k3).1 < (jt k4).1))) ∧
 (CP N_roll_Dice_Next #[(.pointer l), (Iv (30 : Int))] ir fun j5 kj =>
 ∃ ke : Int, j5 = .returned (Iv ke) ∧
 (kW .i64 ((1 : Int) + ke) fun li =>
 (CP N_roll_Dice_Bytes #[(.pointer l), (Iv li)] kj fun jd kk =>
 ∃ ce : OA, ∃ cg cf : Nat, jd = .returned (.slice ce cg cf) ∧
 (CP N_roll_Dice_Next #[(.pointer l), (Iv (20 : Int))] kk fun je it =>
 ∃ eb : Int, je = .returned (Iv eb) ∧
 (∃ i0 i1 : Int, ∃ di : OA, ∃ dk dj : Nat, ∃ i3 : Int, cellsAt it ⟨h2, 0, none⟩ 0 [(Iv i0), (Iv i1), (.slice di dk dj), (Iv i3)] ∧
 (CP N_law23_agree #[(.agg #[Iv i0, Iv i1, .slice di dk dj, Iv i3]), (.slice ce cg cf), (Iv eb)] it fun jf iu =>
 ∃ h3 : Bool, jf = .returned (.bool h3) ∧
 (bsplit (!h3)
 (R (.bool false) iu)
 ((CP N_roll_Dice_Next #[(.pointer l), (Iv (6 : Int))] iu fun jg z =>
 ∃ ec : Int, jg = .returned (Iv ec) ∧
 (kLet (decide (ec = (0 : Int))) fun lj =>
 (bsplit lj
 ((∃ f6 gf : Int, ∃ bj : OA, ∃ br bn : Nat, ∃ gt : Int, cellsAt z ⟨h2, 0, none⟩ 0 [(Iv f6), (Iv gf), (.slice bj br bn), (Iv gt)] ∧
 (CP N_ref23_Submit #[(.agg #[Iv f6, Iv gf, .slice bj br bn, Iv gt]), (.slice ce cg cf)] z fun jh kl =>
 ∃ ee eo : Int, ∃ ax : OA, ∃ a3 a0 : Nat, ∃ e0 j7 : Int, jh = .returned (.tuple #[(.agg #[Iv ee, Iv eo, .slice ax a3 a0, Iv e0]), (Iv j7)]) ∧
 (sxStore kl ⟨h2, 0, none⟩ 0 [(Iv ee), (Iv eo), (.slice ax a3 a0), (Iv e0)] fun km =>
 ea km))))
 ((kLet (decide (ec = (1 : Int))) fun lk =>
 (bsplit lk
 ((∃ f7 gg i2 gu i4 i5 i6 i7 i8 i9 ge cx : Int, ∃ c5 : Bool, ∃ bg : OA, ∃ bi bh : Nat, cellsAt z ⟨bv, 0, none⟩ 0 [(Iv f7), (Iv gg), (Iv i2), (Iv gu), (Iv i4), (Iv i5), (Iv i6), (Iv i7), (Iv i8), (Iv i9), (Iv ge), (Iv cx), (.bool c5), (.slice bg bi bh)] ∧
 (CP N_unack_Tick #[(.agg #[Iv f7, Iv gg, Iv i2, Iv gu, Iv i4, Iv i5, Iv i6, Iv i7, Iv i8, Iv i9, Iv ge, Iv cx, .bool c5, .slice bg bi bh])] z fun ji kn =>
 ∃ ef ep ev e1 e7 fb ff fj fn fr bx b3 : Int, ∃ b7 : Bool, ∃ m : OA, ∃ u q : Nat, ∃ h4 : Int, ji = .returned (.tuple #[(.agg #[Iv ef, Iv ep, Iv ev, Iv e1, Iv e7, Iv fb, Iv ff, Iv fj, Iv fn, Iv fr, Iv bx, Iv b3, .bool b7, .slice m u q]), (Iv h4)]) ∧
 (kAlloc kn #[Iv (0 : Int), Iv (0 : Int), Iv (0 : Int), Iv (0 : Int), Iv (0 : Int), Iv (0 : Int), Iv (0 : Int), Iv (0 : Int), Iv (0 : Int), Iv (0 : Int), Iv (0 : Int), Iv (0 : Int), .bool false, .slice none 0 0] Ty_api_Receiver fun ju ko =>
 (sxStore ko ⟨ju, 0, none⟩ 0 [(Iv ef), (Iv ep), (Iv ev), (Iv e1), (Iv e7), (Iv fb), (Iv ff), (Iv fj), (Iv fn), (Iv fr), (Iv bx), (Iv b3), (.bool b7), (.slice m u q)] fun iv =>
 (∃ f8 gh gn gv g1 g7 hd hj hp hv cq cy : Int, ∃ c6 : Bool, ∃ aa : OA, ∃ am ag : Nat, cellsAt iv ⟨bv, 0, none⟩ 0 [(Iv f8), (Iv gh), (Iv gn), (Iv gv), (Iv g1), (Iv g7), (Iv hd), (Iv hj), (Iv hp), (Iv hv), (Iv cq), (Iv cy), (.bool c6), (.slice aa am ag)] ∧
 (CP N_ref23_Tick #[(.agg #[Iv f8, Iv gh, Iv gn, Iv gv, Iv g1, Iv g7, Iv hd, Iv hj, Iv hp, Iv hv, Iv cq, Iv cy, .bool c6, .slice aa am ag])] iv fun jj kp =>
 ∃ eg eq ew e2 e8 fc fg fk fo fs bz b4 : Int, ∃ b8 : Bool, ∃ n : OA, ∃ v r : Nat, ∃ h5 : Int, jj = .returned (.tuple #[(.agg #[Iv eg, Iv eq, Iv ew, Iv e2, Iv e8, Iv fc, Iv fg, Iv fk, Iv fo, Iv fs, Iv bz, Iv b4, .bool b8, .slice n v r]), (Iv h5)]) ∧
 (kAlloc kp #[Iv (0 : Int), Iv (0 : Int), Iv (0 : Int), Iv (0 : Int), Iv (0 : Int), Iv (0 : Int), Iv (0 : Int), Iv (0 : Int), Iv (0 : Int), Iv (0 : Int), Iv (0 : Int), Iv (0 : Int), .bool false, .slice none 0 0] Ty_api_Receiver fun jb kq =>
 (sxStore kq ⟨jb, 0, none⟩ 0 [(Iv eg), (Iv eq), (Iv ew), (Iv e2), (Iv e8), (Iv fc), (Iv fg), (Iv fk), (Iv fo), (Iv fs), (Iv bz), (Iv b4), (.bool b8), (.slice n v r)] fun ch =>
 (bsplit (!decide (h4 = h5))
 (R (.bool false) ch)
 ((∃ f9 gi go gw g2 g8 he hk hq hw cr cz : Int, ∃ c7 : Bool, ∃ ab : OA, ∃ an ah : Nat, cellsAt ch ⟨ju, 0, none⟩ 0 [(Iv f9), (Iv gi), (Iv go), (Iv gw), (Iv g2), (Iv g8), (Iv he), (Iv hk), (Iv hq), (Iv hw), (Iv cr), (Iv cz), (.bool c7), (.slice ab an ah)] ∧
 (∃ ga gj gp gx g3 g9 hf hl hr hx cs c0 : Int, ∃ c8 : Bool, ∃ ac : OA, ∃ ao ai : Nat, cellsAt ch ⟨jb, 0, none⟩ 0 [(Iv ga), (Iv gj), (Iv gp), (Iv gx), (Iv g3), (Iv g9), (Iv hf), (Iv hl), (Iv hr), (Iv hx), (Iv cs), (Iv c0), (.bool c8), (.slice ac ao ai)] ∧
 (CP N_ref21_Same #[(.agg #[Iv f9, Iv gi, Iv go, Iv gw, Iv g2, Iv g8, Iv he, Iv hk, Iv hq, Iv hw, Iv cr, Iv cz, .bool c7, .slice ab an ah]), (.agg #[Iv ga, Iv gj, Iv gp, Iv gx, Iv g3, Iv g9, Iv hf, Iv hl, Iv hr, Iv hx, Iv cs, Iv c0, .bool c8, .slice ac ao ai])] ch fun jk f2 =>
 ∃ h6 : Bool, jk = .returned (.bool h6) ∧
 (bsplit (!h6)
 (R (.bool false) f2)
 ((∃ gb gk gq gy g4 ha hg hm hs hy ct c1 : Int, ∃ c9 : Bool, ∃ ad : OA, ∃ ap aj : Nat, cellsAt f2 ⟨jb, 0, none⟩ 0 [(Iv gb), (Iv gk), (Iv gq), (Iv gy), (Iv g4), (Iv ha), (Iv hg), (Iv hm), (Iv hs), (Iv hy), (Iv ct), (Iv c1), (.bool c9), (.slice ad ap aj)] ∧
 (sxStore f2 ⟨bv, 0, none⟩ 0 [(Iv gb), (Iv gk), (Iv gq), (Iv gy), (Iv g4), (Iv ha), (Iv hg), (Iv hm), (Iv hs), (Iv hy), (Iv ct), (Iv c1), (.bool c9), (.slice ad ap aj)] fun kr =>
 ea kr))))))))))))))))))
 ((∃ gc gl : Int, ∃ bk : OA, ∃ bs bo : Nat, ∃ gz : Int, cellsAt z ⟨h2, 0, none⟩ 0 [(Iv gc), (Iv gl), (.slice bk bs bo), (Iv gz)] ∧
 (CP N_ref23_Build #[(.agg #[Iv gc, Iv gl, .slice bk bs bo, Iv gz]), (Iv eb)] z fun jl ks =>
 ∃ eh er : Int, ∃ ay : OA, ∃ a4 a1 : Nat, ∃ e3 : Int, ∃ b : OA, ∃ a bw : Nat, ∃ h7 : Int, jl = .returned (.tuple #[(.agg #[Iv eh, Iv er, .slice ay a4 a1, Iv e3]), (.slice b a bw), (Iv h7)]) ∧
 (kAlloc ks #[Iv (0 : Int), Iv (0 : Int), .slice none 0 0, Iv (0 : Int)] Ty_api_Cutter fun jv kt =>
 (sxStore kt ⟨jv, 0, none⟩ 0 [(Iv eh), (Iv er), (.slice ay a4 a1), (Iv e3)] fun ci =>
 (bsplit (!decide (h7 = (0 : Int)))
 ((∃ gd gm : Int, ∃ bl : OA, ∃ bt bp : Nat, ∃ g0 : Int, cellsAt ci ⟨h2, 0, none⟩ 0 [(Iv gd), (Iv gm), (.slice bl bt bp), (Iv g0)] ∧
 (CP N_ref23_Submit #[(.agg #[Iv gd, Iv gm, .slice bl bt bp, Iv g0]), (.slice ce cg cf)] ci fun jm ku =>
 ∃ ei es : Int, ∃ az : OA, ∃ a5 a2 : Nat, ∃ e4 j8 : Int, jm = .returned (.tuple #[(.agg #[Iv ei, Iv es, .slice az a5 a2, Iv e4]), (Iv j8)]) ∧
 (sxStore ku ⟨h2, 0, none⟩ 0 [(Iv ei), (Iv es), (.slice az a5 a2), (Iv e4)] fun kv =>
 ea kv))))
 ((∃ ck cw : Int, ∃ bm : OA, ∃ bu bq : Nat, ∃ dl : Int, cellsAt ci ⟨jv, 0, none⟩ 0 [(Iv ck), (Iv cw), (.slice bm bu bq), (Iv dl)] ∧
 (sxStore ci ⟨h2, 0, none⟩ 0 [(Iv ck), (Iv cw), (.slice bm bu bq), (Iv dl)] fun kw =>
 (CP N_roll_Dice_Next #[(.pointer l), (Iv (5 : Int))] kw fun jn iw =>
 ∃ h8 : Int, jn = .returned (Iv h8) ∧
 (bsplit (decide (h8 = (4 : Int)))
 (ea iw)
 ((∃ ja : WP,
 (∀ (_ : Env)  (f4 : World), ja f4 →
 (∃ cl c2 gr dm g5 hb hh hn ht hz cu c3 : Int, ∃ da : Bool, ∃ ae : OA, ∃ aq ak : Nat, cellsAt f4 ⟨bv, 0, none⟩ 0 [(Iv cl), (Iv c2), (Iv gr), (Iv dm), (Iv g5), (Iv hb), (Iv hh), (Iv hn), (Iv ht), (Iv hz), (Iv cu), (Iv c3), (.bool da), (.slice ae aq ak)] ∧
 (CP N_unack_Receive #[(.agg #[Iv cl, Iv c2, Iv gr, Iv dm, Iv g5, Iv hb, Iv hh, Iv hn, Iv ht, Iv hz, Iv cu, Iv c3, .bool da, .slice ae aq ak]), (.slice b a bw)] f4 fun jp ky =>
 ∃ ej et ex e5 e9 fd fh fl fp ft b0 b5 : Int, ∃ b9 : Bool, ∃ o : OA, ∃ x s : Nat, ∃ fv : OA, ∃ fz fx : Nat, ∃ ia : Int, jp = .returned (.tuple #[(.agg #[Iv ej, Iv et, Iv ex, Iv e5, Iv e9, Iv fd, Iv fh, Iv fl, Iv fp, Iv ft, Iv b0, Iv b5, .bool b9, .slice o x s]), (.slice fv fz fx), (Iv ia)]) ∧
 (kAlloc ky #[Iv (0 : Int), Iv (0 : Int), Iv (0 : Int), Iv (0 : Int), Iv (0 : Int), Iv (0 : Int), Iv (0 : Int), Iv (0 : Int), Iv (0 : Int), Iv (0 : Int), Iv (0 : Int), Iv (0 : Int), .bool false, .slice none 0 0] Ty_api_Receiver fun jw kz =>
 (sxStore kz ⟨jw, 0, none⟩ 0 [(Iv ej), (Iv et), (Iv ex), (Iv e5), (Iv e9), (Iv fd), (Iv fh), (Iv fl), (Iv fp), (Iv ft), (Iv b0), (Iv b5), (.bool b9), (.slice o x s)] fun ix =>
 (∃ cm c4 gs dn g6 hc hi ho hu h0 cv a9 : Int, ∃ db : Bool, ∃ af : OA, ∃ ar al : Nat, cellsAt ix ⟨bv, 0, none⟩ 0 [(Iv cm), (Iv c4), (Iv gs), (Iv dn), (Iv g6), (Iv hc), (Iv hi), (Iv ho), (Iv hu), (Iv h0), (Iv cv), (Iv a9), (.bool db), (.slice af ar al)] ∧
 (CP N_ref23_Receive #[(.agg #[Iv cm, Iv c4, Iv gs, Iv dn, Iv g6, Iv hc, Iv hi, Iv ho, Iv hu, Iv h0, Iv cv, Iv a9, .bool db, .slice af ar al]), (.slice b a bw)] ix fun jq k0 =>
 ∃ ek eu ey e6 fa fe fi fm fq fu b1 b6 : Int, ∃ ca : Bool, ∃ p : OA, ∃ y t : Nat, ∃ fw : OA, ∃ f0 fy : Nat, ∃ ib : Int, jq = .returned (.tuple #[(.agg #[Iv ek, Iv eu, Iv ey, Iv e6, Iv fa, Iv fe, Iv fi, Iv fm, Iv fq, Iv fu, Iv b1, Iv b6, .bool ca, .slice p y t]), (.slice fw f0 fy), (Iv ib)]) ∧
 (kAlloc k0 #[Iv (0 : Int), Iv (0 : Int), Iv (0 : Int), Iv (0 : Int), Iv (0 : Int), Iv (0 : Int), Iv (0 : Int), Iv (0 : Int), Iv (0 : Int), Iv (0 : Int), Iv (0 : Int), Iv (0 : Int), .bool false, .slice none 0 0] Ty_api_Receiver fun jc k1 =>
 (sxStore k1 ⟨jc, 0, none⟩ 0 [(Iv ek), (Iv eu), (Iv ey), (Iv e6), (Iv fa), (Iv fe), (Iv fi), (Iv fm), (Iv fq), (Iv fu), (Iv b1), (Iv b6), (.bool ca), (.slice p y t)] fun iy =>
 (bsplit (!decide (ia = ib))
 (R (.bool false) iy)
 ((CP N_roll_Same #[(.slice fv fz fx), (.slice fw f0 fy)] iy fun jr cj =>
 ∃ ic : Bool, jr = .returned (.bool ic) ∧
 (bsplit (!ic)
 (R (.bool false) cj)
 ((∃ cn dc df dp ds dv dy d1 d4 d7 a6 ba : Int, ∃ bd : Bool, ∃ c : OA, ∃ i f : Nat, cellsAt cj ⟨jw, 0, none⟩ 0 [(Iv cn), (Iv dc), (Iv df), (Iv dp), (Iv ds), (Iv dv), (Iv dy), (Iv d1), (Iv d4), (Iv d7), (Iv a6), (Iv ba), (.bool bd), (.slice c i f)] ∧
 (∃ co dd dg dq dt dw dz d2 d5 d8 a7 bb : Int, ∃ be : Bool, ∃ d : OA, ∃ j g : Nat, cellsAt cj ⟨jc, 0, none⟩ 0 [(Iv co), (Iv dd), (Iv dg), (Iv dq), (Iv dt), (Iv dw), (Iv dz), (Iv d2), (Iv d5), (Iv d8), (Iv a7), (Iv bb), (.bool be), (.slice d j g)] ∧
 (CP N_ref21_Same #[(.agg #[Iv cn, Iv dc, Iv df, Iv dp, Iv ds, Iv dv, Iv dy, Iv d1, Iv d4, Iv d7, Iv a6, Iv ba, .bool bd, .slice c i f]), (.agg #[Iv co, Iv dd, Iv dg, Iv dq, Iv dt, Iv dw, Iv dz, Iv d2, Iv d5, Iv d8, Iv a7, Iv bb, .bool be, .slice d j g])] cj fun js f5 =>
 ∃ id : Bool, js = .returned (.bool id) ∧
 (bsplit (!id)
 (R (.bool false) f5)
 ((∃ cp de dh dr du dx d0 d3 d6 d9 a8 bc : Int, ∃ bf : Bool, ∃ e : OA, ∃ k h : Nat, cellsAt f5 ⟨jc, 0, none⟩ 0 [(Iv cp), (Iv de), (Iv dh), (Iv dr), (Iv du), (Iv dx), (Iv d0), (Iv d3), (Iv d6), (Iv d9), (Iv a8), (Iv bc), (.bool bf), (.slice e k h)] ∧
 (sxStore f5 ⟨bv, 0, none⟩ 0 [(Iv cp), (Iv de), (Iv dh), (Iv dr), (Iv du), (Iv dx), (Iv d0), (Iv d3), (Iv d6), (Iv d9), (Iv a8), (Iv bc), (.bool bf), (.slice e k h)] fun k2 =>
 ea k2))))))))))))))))))))) ∧
 (CP N_roll_Dice_Next #[(.pointer l), (Iv (12 : Int))] iw fun jo f3 =>
 ∃ h9 : Int, jo = .returned (Iv h9) ∧
 (bsplit (decide (h9 = (11 : Int)))
 ((kW .i64 ((a : Int) - (1 : Int)) fun h1 =>
 (kIx b a h1 fun k5 =>
 (kLd f3 (k5.add (h1.toNat * 1)) .u8 fun ll =>
 (kLet (bXor .u8 ll (3 : Int)) fun lm =>
 (kIx b a h1 fun k6 =>
 (kSet f3 (k6.add (h1.toNat * 1)) (.int .u8 lm) fun kx =>
 ja kx)))))))
 (ja f3)))))))))))))))))))))))))))))))) ∧
 (bsplit (decide (k4 < (80 : Int)))
 ((CP N_roll_Dice_Rest #[(.pointer l)] f1 fun j2 iq =>
 ∃ kb : Int, j2 = .returned (Iv kb) ∧
 (bsplit (decide (kb > (0 : Int)))
 (ln iq)
 ((CP N_law23_awake #[] iq fun j3 kh =>
 ∃ kc : Bool, j3 = .returned (.bool kc) ∧
 R (.bool kc) kh)))))
 ((CP N_law23_awake #[] f1 fun j4 ki =>
 ∃ kd : Bool, j4 = .returned (.bool kd) ∧
 R (.bool kd) ki)))))))))))))))))))
theorem F_law23_UnackRuns_ok {R : EP} (l_a : OA) (l_l : Nat) (l_c : Nat) (w : World) (h : F_law23_UnackRuns l_a l_l l_c w fun v w' => R (.returned v) w') : CP N_law23_UnackRuns #[(.slice l_a l_l l_c)] w R :=
 calls_of (k := TTk) (h := h_law23_UnackRuns) (f := 3) follows_ok Tryz.func3 (Eq.mpr (by kernel_rfl) h)

end Go.Proofs.YtlgolgpellbnbaaGreat
