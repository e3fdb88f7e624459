import Derived.Test.YtgmniohbnophdaaW38h
/- CHAPTER 38: Tick. -/
set_option maxRecDepth 100000
namespace Go.Proofs.Ytgmniohbnophdaa
open Go.Sx Go.RowKit Go.P38
theorem lookI_updI (x y z : Int) : ∀ es : List (Int × Int), lookI (updI es x y) z = if z = x then some y else lookI es z
  | [] => by
    by_cases h : z = x
    · subst h; simp [updI, lookI]
    · have h' : ¬ x = z := fun e => h e.symm
      simp [updI, lookI, h, h']
  | p :: es => by
    have ih := lookI_updI x y z es
    unfold updI
    by_cases hp : p.1 = x
    · rw [if_pos hp]
      by_cases h : z = x
      · subst h; simp [lookI]
      · have h' : ¬ x = z := fun e => h e.symm
        have h2 : ¬ p.1 = z := fun e => h' (hp.symm.trans e)
        simp [lookI, h, h', h2]
    · rw [if_neg hp]
      by_cases h : p.1 = z
      · have h2 : ¬ z = x := fun e => hp (h.trans e)
        simp [lookI, h, h2]
      · simp [lookI, h, ih]
section
variable {A : Nat → Prop} {w : World} {p : Option Addr} {c : Nat} {a : Ac} {id tick : Int} {x : At}
theorem access_Tick_ct (hA : Held A w fun w => SlR (CE encAt) 4 w p a.l) (hcap : a.l.length ≤ c) (hl : a.l.length ≤ 800000) :
    Calls Try.prog N_access_Tick #[aggAc a p c, .int .i64 tick] w (RetT A w (tickR a tick)) := by
  apply F_access_Tick_ok
  unfold F_access_Tick
  have H := St.start hA
  refine H.alloc ?_; clear H; intro b w1 H1
  refine H1.alloc ?_; clear H1; intro b1 w2 H2
  replace H2 : St A [] w w2 [acBlk b a p c, zeroAc b1] (fun w => SlR (CE encAt) 4 w p a.l) := H2
  refine ⟨_, _, _, _, _, _, H2.cells (i := 0) rfl, ?_⟩
  refine (clone_ac H2.get (by omega)).mono ?_
  rintro _ w3 ⟨q0, d0, rfl, K⟩; have H3 := H2.callR K; clear H2 K
  refine ⟨_, _, _, _, _, _, rfl, ?_⟩
  refine H3.alloc ?_; clear H3; intro b2 w4 H4
  refine H4.store (i := 3) rfl (by rfl) (by rfl) ?_; clear H4; intro w5 H5
  replace H5 : St A [] w w5 [acBlk b a p c, zeroAc b1, .els encAt Ty_api_Attempt 4 q0 d0 a.l, acBlk b2 a q0 d0] (fun w => SlR (CE encAt) 4 w p a.l) := H5
  have back : ∀ {w3 : World} (n : Int) {F : Ending → World → Prop}, St A [] w w3 [acBlk b a p c, zeroAc b1, .els encAt Ty_api_Attempt 4 q0 d0 a.l, acBlk b2 a q0 d0] (fun w => SlR (CE encAt) 4 w p a.l) → (∀ e w', RetT A w (a, [], [], n) e w' → F e w') →
      sxStore w3 ⟨b1, 0, none⟩ 0 [(.int .i64 a.pre), (.int .i64 a.tries), (.int .i64 a.back), (.slice q0 a.l.length d0)] fun w4 =>
        (∃ r_0 r_1 r_2 : Int, ∃ r_3_a : Option Addr, ∃ r_3_l r_3_c : Nat, cellsAt w4 ⟨b1, 0, none⟩ 0 [(.int .i64 r_0), (.int .i64 r_1), (.int .i64 r_2), (.slice r_3_a r_3_l r_3_c)] ∧
        F (.returned (.tuple #[(.agg #[.int .i64 r_0, .int .i64 r_1, .int .i64 r_2, .slice r_3_a r_3_l r_3_c]), (.slice none 0 0), (.slice none 0 0), (.int .i64 n)])) w4) := fun {w3} n {F} H3 hF => by
    refine H3.store (i := 1) rfl (by rfl) (by rfl) ?_; intro w4 H4
    refine ⟨_, _, _, _, _, _, H4.cells (i := 1) rfl, ?_⟩
    exact hF _ _ ⟨q0, d0, none, 0, none, 0, rfl, H4.capE (i := 2) rfl, ((H4.shareE encAt_ok (i := 2) rfl).imp fun _ h => ⟨h.1, .inl rfl, .inl rfl⟩).fin⟩
  refine ⟨_, _, _, _, _, _, H5.cells (i := 0) rfl, ?_⟩
  refine (access_Check_ct H5.get hcap (by omega)).mono ?_
  rintro _ w6 ⟨rfl, hb6⟩; have H6 := H5.pass hb6; clear H5
  refine ⟨_, rfl, ?_⟩
  refine bsplit_nd (fun c10 => ?_) (fun c10 => ?_) --  (!decide (r = (0 : Int)))
  · have e : tickR a tick = (a, [], [], checkR a) := if_pos c10
    rw [e]
    refine ⟨_, _, _, _, _, _, H6.cells (i := 3) rfl, ?_⟩
    exact back (checkR a) (F := RetT A w (a, [], [], checkR a)) H6 fun _ _ h => h
  · have e0 : tickR a tick = if tick < 0 ∨ tick > 1048576 then (a, [], [], 3) else ({ a with l := (foldR a tick (nowL a.l tick).length).1 }, (foldR a tick (nowL a.l tick).length).2.1, (foldR a tick (nowL a.l tick).length).2.2, 0) := if_neg (by simpa using c10)
    rw [e0]
    obtain ⟨hbad, h16, hgood⟩ := checkR_ok c10
    have hb := hbad
    unfold BadR at hb
    have hnl := now_len a.l tick
    refine ⟨fun w7 => St A [] w w7 [acBlk b a p c, zeroAc b1, .els encAt Ty_api_Attempt 4 q0 d0 a.l, acBlk b2 a q0 d0] (fun w => SlR (CE encAt) 4 w p a.l) ∧ 0 ≤ tick ∧ tick ≤ 1048576, ?_, ?_⟩
    · rintro _ w7 ⟨H7, ht0, ht1⟩
      rw [if_neg (by omega)]
      refine ⟨fun n1 w9 => St A [] w w9 [acBlk b a p c, zeroAc b1, .els encAt Ty_api_Attempt 4 q0 d0 a.l, acBlk b2 a q0 d0] (fun w => SlR (CE encAt) 4 w p a.l) ∧ n1 = ((nowL a.l tick).length : Int), ?_, ?_⟩
      · rintro _ n1 w9 ⟨H9, rfl⟩
        generalize hn : (nowL a.l tick).length = n at *
        have hnow : a.l.take n = nowL a.l tick := by rw [← hn]; exact now_take _ _
        have hrest : a.l.drop n = restL a.l tick := by rw [← hn]; exact rest_drop _ _
        have hix : ∀ {w' : World}, SlR (CE encAt) 4 w' p a.l → SlR (CE encAt) 4 w' (slAddr c 0 4 p) (nowL a.l tick) := fun h => by rw [← hnow]; exact slr_take h c n
        refine H9.ldS (i := 0) rfl rfl ?_
        refine ⟨⟨by omega, by omega⟩, ?_⟩ -- hi
        refine H9.mkMap ?_; clear H9; intro m w13 H13
        simp only [Int.toNat_natCast, Nat.sub_zero]
        refine ⟨fun i => ((n - i).toNat, fun w14 => ∃ (k : Nat) (es : List (Int × Int)), i = k ∧ k ≤ n ∧ (∀ z, (lookI es z).getD 0 = (((nowL a.l tick).take k).countP (fun y => decide (y.pre = z)) : Nat)) ∧ St A [] w w14 [acBlk b a p c, zeroAc b1, .els encAt Ty_api_Attempt 4 q0 d0 a.l, acBlk b2 a q0 d0, .map m es] (fun w => SlR (CE encAt) 4 w p a.l)), ⟨0, [], rfl, by omega, fun z => by simp [lookI], H13⟩, ?_⟩
        clear H13
        rintro _ _ w14 ⟨k, es, rfl, hk, hes, H14⟩
        refine bsplit_dec (fun c9 => ?_) (fun c9 => ?_)
        · have hlt' : k < (nowL a.l tick).length := by omega
          rw [← hn]
          refine ixE (hix H14.get) k rfl hlt' fun b4 s hsk hb4 => ?_
          obtain rfl : (nowL a.l tick)[k] = s := by rw [List.getElem?_eq_getElem hlt'] at hsk; injection hsk
          refine ⟨_, _, _, _, hb4, ?_⟩
          refine H14.alloc ?_; clear H14; intro b5 w15 H15
          refine H15.store (i := 5) rfl (by rfl) (by rfl) ?_; clear H15; intro w16 H16
          refine H16.ld (i := 5) rfl rfl ?_
          refine H16.look (i := 4) rfl ?_
          have hcl : ∀ z, ((nowL a.l tick).take (k + 1)).countP (fun y => decide (y.pre = z)) = ((nowL a.l tick).take k).countP (fun y => decide (y.pre = z)) + if (nowL a.l tick)[k].pre = z then 1 else 0 := fun z => by
            rw [List.take_add_one, List.getElem?_eq_getElem hlt', List.countP_append]
            simp [List.countP_cons]
          have hbd : ((nowL a.l tick).take k).countP (fun y => decide (y.pre = (nowL a.l tick)[k].pre)) ≤ k := Nat.le_trans List.countP_le_length (by rw [List.length_take]; omega)
          rw [hes]
          refine kW_i64 (by omega) ?_
          refine H16.mapSet (i := 4) rfl ?_; clear H16; intro w17 H17
          refine kW_i64 (by omega) ?_
          refine ⟨⟨k + 1, _, by omega, by omega, fun z => ?_, H17.dropLast (R := [_, _, _, _, _])⟩, by dsimp only; omega⟩
          rw [lookI_updI, hcl]
          by_cases hz : z = (nowL a.l tick)[k].pre
          · subst hz; simp
          · rw [if_neg hz, if_neg (fun e => hz e.symm), hes]; simp
        · obtain rfl : k = n := by omega
          have hes' : ∀ z, (lookI es z).getD 0 = ((nowL a.l tick).countP (fun y => decide (y.pre = z)) : Nat) := fun z => by
            rw [hes, ← hn, List.take_length]
          clear hes
          refine H14.ldS (i := 0) rfl rfl ?_
          refine ⟨⟨by omega, by omega⟩, ?_⟩
          have hp2 : SlR (CE encAt) 4 w14 (slAddr c k 4 p) (restL a.l tick) := by rw [← hrest]; exact H14.get.tailE hcap
          rw [show Value.slice (slAddr c k 4 p) (a.l.length - k) (c - k) = .slice (slAddr c k 4 p) (restL a.l tick).length (c - k) by rw [show a.l.length - k = (restL a.l tick).length by omega]]
          refine (clone_ats hp2 (by omega)).mono ?_
          rintro _ w18 ⟨q, d, rfl, K⟩
          have H18 := St.lastAt (R := [_, _, _, _, _]) (i := 2) (H14.callR K) (by simp)
          clear H14 K
          refine ⟨_, _, _, rfl, ?_⟩
          refine H18.set (i := 3) rfl (by show 3 < 4; decide) ?_; clear H18; intro w19 H19
          have H19 := (H19.nilI Ty_int .i64).nilI Ty_int .i64
          refine ⟨fun ga gl gc da dl dc i => ((k - i).toNat, fun w20 => ∃ (j : Nat) (ra : Option Addr) (rc : Nat), i = j ∧ j ≤ k ∧ gl = (foldR a tick j).2.1.length ∧ dl = (foldR a tick j).2.2.length ∧
            St A [] w w20 [acBlk b a p c, zeroAc b1, .els encAt Ty_api_Attempt 4 ra rc (foldR a tick j).1, acBlk b2 { a with l := (foldR a tick j).1 } ra rc, .map m es, .ints Ty_int .i64 ga gc (foldR a tick j).2.1, .ints Ty_int .i64 da dc (foldR a tick j).2.2] (fun w => SlR (CE encAt) 4 w p a.l)), ⟨0, q, d, rfl, by omega, rfl, rfl, H19⟩, ?_⟩
          clear H19
          rintro _ ga gl gc da dl dc i w20 ⟨j, ra, rc, rfl, hj, rfl, rfl, H20⟩
          have hfl := foldR_len (a := a) (tick := tick) (k := j) (by omega)
          refine bsplit_dec (fun c9 => ?_) (fun c9 => ?_)
          · have hlt' : j < (nowL a.l tick).length := by omega
            have hmem : (nowL a.l tick)[j] ∈ a.l := by
              have h9 : ∀ z, z ∈ nowL a.l tick → z ∈ a.l := fun z hz => by rw [← hnow] at hz; exact List.mem_of_mem_take hz
              exact h9 _ (List.getElem_mem hlt')
            obtain ⟨s1, s2, s3, s4⟩ := good_small hgood hmem
            have hfs := foldR_succ hlt'
            rw [← hn]
            refine ixE (hix H20.get) j rfl hlt' fun b6 s hsk hb6 => ?_
            obtain rfl : (nowL a.l tick)[j] = s := by rw [List.getElem?_eq_getElem hlt'] at hsk; injection hsk
            refine ⟨_, _, _, _, hb6, ?_⟩
            refine H20.alloc ?_; clear H20; intro b7 w21 H21
            refine H21.store (i := 7) rfl (by rfl) (by rfl) ?_; clear H21; intro w22 H22
            generalize hy : (nowL a.l tick)[j] = y at *
            replace H22 : St A [] w w22 [acBlk b a p c, zeroAc b1, .els encAt Ty_api_Attempt 4 ra rc (foldR a tick j).1, acBlk b2 { a with l := (foldR a tick j).1 } ra rc, .map m es, .ints Ty_int .i64 ga gc (foldR a tick j).2.1, .ints Ty_int .i64 da dc (foldR a tick j).2.2, .blk b7 Ty_api_Attempt (encAt y)] (fun w => SlR (CE encAt) 4 w p a.l) := H22
            refine H22.ld (i := 7) rfl rfl ?_
            refine H22.look (i := 4) rfl ?_
            rw [hes']
            refine bsplit_dec (fun c7 => ?_) (fun c7 => ?_)
            · have hstep : foldR a tick (j + 1) = ((foldR a tick j).1, (foldR a tick j).2.1 ++ [y.id], (foldR a tick j).2.2) := by rw [hfs, stepR, if_pos (by omega)]
              refine H22.ld (i := 7) rfl rfl ?_
              refine H22.alloc ?_; clear H22; intro b8 w23 H23
              refine H23.appIB (i := 5) (j := 8) rfl [y.id] rfl sl_Ty_S_int rfl (by simp; omega) (by simp; omega) ?_; intro x_a5 x_c5 w24 H24
              refine kW_i64 (by omega) ?_
              refine ⟨⟨j + 1, ra, rc, by omega, by omega, by rw [hstep], by rw [hstep], ?_⟩, by dsimp only; omega⟩
              rw [hstep]
              exact (H24.dropLast (R := [_, _, _, _, _, _, _, _])).dropLast (R := [_, _, _, _, _, _, _])
            · refine H22.ld (i := 7) rfl rfl ?_
              refine kW_i64 (by omega) ?_
              refine H22.set (i := 7) rfl (by show 3 < 4; decide) ?_; clear H22; intro w25 H25
              refine H25.ld (i := 7) rfl rfl ?_
              refine H25.ld (i := 0) rfl rfl ?_
              refine bsplit_dec (fun c6 => ?_) (fun c6 => ?_)
              · have hstep : foldR a tick (j + 1) = ((foldR a tick j).1, (foldR a tick j).2.1, (foldR a tick j).2.2 ++ [y.id]) := by rw [hfs, stepR, if_neg (by omega), if_pos c6]
                refine H25.ld (i := 7) rfl rfl ?_
                refine H25.alloc ?_; clear H25; intro b9 w26 H26
                refine H26.appIB (i := 6) (j := 8) rfl [y.id] rfl sl_Ty_S_int rfl (by simp; omega) (by simp; omega) ?_; intro x_a6 x_c6 w27 H27
                refine kW_i64 (by omega) ?_
                refine ⟨⟨j + 1, ra, rc, by omega, by omega, by rw [hstep], by rw [hstep], ?_⟩, by dsimp only; omega⟩
                rw [hstep]
                exact (H27.dropLast (R := [_, _, _, _, _, _, _, _])).dropLast (R := [_, _, _, _, _, _, _])
              · have hstep : foldR a tick (j + 1) = (putR (foldR a tick j).1 (movedR a tick y), (foldR a tick j).2.1, (foldR a tick j).2.2) := by rw [hfs, stepR, if_neg (by omega), if_neg c6]
                refine H25.ld (i := 7) rfl rfl ?_
                refine H25.ld (i := 7) rfl rfl ?_
                refine H25.ld (i := 0) rfl rfl ?_
                refine access_Preamble_ct.mono ?_
                rintro _ w28 ⟨rfl, hb28⟩; have H28 := H25.pass hb28; clear H25
                refine ⟨_, rfl, ?_⟩
                refine H28.set (i := 7) rfl (by show 1 < 4; decide) ?_; clear H28; intro w29 H29
                refine kW_i64 (by omega) ?_ -- tick + (1 : Int)
                refine H29.ld (i := 7) rfl rfl ?_
                refine kW_i64 (by omega) ?_ -- (17 : Int) * x_04
                refine H29.ld (i := 7) rfl rfl ?_
                refine kW_i64 (by omega) ?_ -- (5 : Int) * (x_3 + (1 : Int))
                refine kW_i64 (by omega) ?_
                refine H29.ld (i := 0) rfl rfl ?_
                refine kW_i64 (by omega) ?_ -- a_2 + (1 : Int)
                refine ⟨by omega, ?_⟩
                refine kTmod (by omega) ?_
                have hem := emod_small (x := 17 * y.id + 5 * (y.tries + 1)) (m := a.back + 1) (by omega)
                refine kW_i64 (by omega) ?_
                refine H29.set (i := 7) rfl (by show 2 < 4; decide) ?_; clear H29; intro w30 H30
                replace H30 : St A [] w w30 [acBlk b a p c, zeroAc b1, .els encAt Ty_api_Attempt 4 ra rc (foldR a tick j).1, acBlk b2 { a with l := (foldR a tick j).1 } ra rc, .map m es, .ints Ty_int .i64 ga gc (foldR a tick j).2.1, .ints Ty_int .i64 da dc (foldR a tick j).2.2, .blk b7 Ty_api_Attempt (encAt (movedR a tick y))] (fun w => SlR (CE encAt) 4 w p a.l) := H30
                refine ⟨_, _, _, _, _, _, H30.cells (i := 3) rfl, ?_⟩
                refine ⟨_, _, _, _, H30.cells (i := 7) rfl, ?_⟩
                refine (with_ct (a := { a with l := (foldR a tick j).1 }) (x := movedR a tick y) (H30.slE encAt_ok (i := 2) rfl) (by show (foldR a tick j).1.length ≤ 900000; omega) ((foldR_asc hgood.asc.weak (by omega)).mono _)).mono ?_
                rintro _ w31 ⟨q', d', rfl, K⟩
                have H31 := (St.lastAt (R := [_, _, _, _, _, _, _, _]) (i := 2) (H30.callR K) (by simp)).dropLast (R := [_, _, _, _, _, _, _])
                refine ⟨_, _, _, _, _, _, rfl, ?_⟩
                refine H31.store (i := 3) rfl (by rfl) (by rfl) ?_; clear H31; intro w32 H32
                refine kW_i64 (by omega) ?_
                refine ⟨⟨j + 1, q', d', by omega, by omega, by rw [hstep], by rw [hstep], ?_⟩, by dsimp only; omega⟩
                rw [hstep]
                exact H32
          · obtain rfl : j = k := by omega
            refine ⟨_, _, _, _, _, _, H20.cells (i := 3) rfl, ?_⟩
            refine H20.store (i := 1) rfl (by rfl) (by rfl) ?_; clear H20; intro w33 H33
            refine ⟨_, _, _, _, _, _, H33.cells (i := 1) rfl, ?_⟩
            have hcp := H33.capE (i := 2) rfl
            have H34 := ((H33.shareE encAt_ok (i := 2) rfl).shareI (i := 5) rfl).shareI (i := 6) rfl
            exact ⟨_, _, _, _, _, _, rfl, hcp, (H34.imp fun _ h => ⟨h.2.2.1, h.2.1, h.1⟩).fin⟩
      · refine ⟨fun n => ((a.l.length - n).toNat, fun w8 => ∃ k : Nat, n = k ∧ k ≤ a.l.length ∧ (∀ j (hj : j < a.l.length), j < k → decide (a.l[j].at_ ≤ tick) = true) ∧ St A [] w w8 [acBlk b a p c, zeroAc b1, .els encAt Ty_api_Attempt 4 q0 d0 a.l, acBlk b2 a q0 d0] (fun w => SlR (CE encAt) 4 w p a.l)), ⟨0, rfl, by omega, fun j _ h => by omega, H7⟩, ?_⟩
        clear H7
        rintro _ _ w8 ⟨k, rfl, hk, hI, H8⟩
        have out : (∀ hk : k < a.l.length, decide (a.l[k].at_ ≤ tick) = false) → (k : Int) = ((nowL a.l tick).length : Int) := fun h => by
          have := (while_at (p := fun x => decide (x.at_ ≤ tick)) hk hI h).1
          have e : nowL a.l tick = a.l.take k := this
          rw [e, List.length_take]; omega
        refine H8.ldS (i := 0) rfl rfl ?_
        refine bsplit_dec (fun c3 => ?_) (fun c3 => ?_)
        · have hlt : k < a.l.length := by omega
          refine H8.ldS (i := 0) rfl rfl ?_
          refine ixE H8.get k rfl hlt fun b2 s hsk hb2 => ?_
          obtain rfl : a.l[k] = s := by rw [List.getElem?_eq_getElem hlt] at hsk; injection hsk
          refine ld_el (j := 2) hb2 rfl ?_
          refine bsplit_dec (fun c2 => ?_) (fun c2 => ?_)
          · refine kW_i64 (by omega) ?_
            exact ⟨⟨k + 1, by omega, by omega, fun j hj h => by
              rcases Nat.lt_or_ge j k with h' | h'
              · exact hI j hj h'
              · obtain rfl : j = k := by omega
                simpa using c2, H8⟩, by dsimp only; omega⟩
          · exact ⟨H8, out fun _ => by simpa using c2⟩
        · exact ⟨H8, out fun h => by omega⟩
    · refine bsplit_dec (fun c1 => ?_) (fun c1 => ?_)
      · rw [if_pos (by omega)]
        refine ⟨_, _, _, _, _, _, H6.cells (i := 3) rfl, ?_⟩
        exact back 3 (F := RetT A w (a, [], [], 3)) H6 fun _ _ h => h
      · refine bsplit_dec (fun c => ?_) (fun c => ?_)
        · rw [if_pos (by omega)]
          refine ⟨_, _, _, _, _, _, H6.cells (i := 3) rfl, ?_⟩
          exact back 3 (F := RetT A w (a, [], [], 3)) H6 fun _ _ h => h
        · exact ⟨H6, by omega, by omega⟩
end
end Go.Proofs.Ytgmniohbnophdaa
