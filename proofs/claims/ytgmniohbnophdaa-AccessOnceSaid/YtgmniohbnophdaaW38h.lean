import Derived.Test.YtgmniohbnophdaaW38g
/- CHAPTER 38: Tick of the reference. -/
set_option maxRecDepth 100000
namespace Go.Proofs.Ytgmniohbnophdaa
open Go.Sx Go.RowKit Go.P38
/-- what a tick hands out -/
def RetT (A : Nat → Prop) (w : World) (r : Ac × List Int × List Int × Int) (e : Ending) (w' : World) : Prop :=
  ∃ p c g gc d dc, e = .returned (.tuple #[aggAc r.1 p c, .slice g r.2.1.length gc, .slice d r.2.2.1.length dc, .int .i64 r.2.2.2]) ∧ r.1.l.length ≤ c ∧
    St A [] w w' [] fun w => SlR (CE encAt) 4 w p r.1.l ∧ SlR (IntC .i64) 1 w g r.2.1 ∧ SlR (IntC .i64) 1 w d r.2.2.1
section
variable {A : Nat → Prop} {w : World} {p : Option Addr} {c : Nat} {a : Ac} {id tick : Int} {x : At}
theorem ld_el {w : World} {b : Addr} {i j : Nat} {y : At} {k : IntKind} {v : Int} {F : Int → Prop} (hb : CE encAt w (b.add i) y) (hv : (encAt y)[j]? = some (.int k v)) (hF : F v) : kLd w ((b.add i).add j) k F := ld_at hb j hv hF
theorem good_small {a : Ac} (h : GoodL a) {x : At} (hx : x ∈ a.l) : 0 ≤ x.id ∧ x.id < 65536 ∧ 0 ≤ x.tries ∧ x.tries < a.tries := by
  obtain ⟨i, hi, rfl⟩ := List.getElem_of_mem hx
  have := h ⟨i, hi⟩
  exact ⟨this.1, this.2.1, this.2.2.1, this.2.2.2.1⟩
theorem emod_small {x m : Int} (hm : 0 < m) : 0 ≤ x % m ∧ x % m < m := ⟨Int.emod_nonneg _ (by omega), Int.emod_lt_of_pos _ hm⟩
theorem ref38_Tick_ct (hA : Held A w fun w => SlR (CE encAt) 4 w p a.l) (hcap : a.l.length ≤ c) (hl : a.l.length ≤ 800000) :
    Calls Try.prog N_ref38_Tick #[aggAc a p c, .int .i64 tick] w (RetT A w (tickR a tick)) := by
  apply F_ref38_Tick_ok
  unfold F_ref38_Tick
  have H := St.start hA
  refine H.alloc ?_; clear H; intro b w1 H1
  refine H1.alloc ?_; clear H1; intro b1 w2 H2
  replace H2 : St A [] w w2 [acBlk b a p c, zeroAc b1] (fun w => SlR (CE encAt) 4 w p a.l) := H2
  have back : ∀ {w3 : World} (n : Int) {F : Ending → World → Prop}, St A [] w w3 [acBlk b a p c, zeroAc b1] (fun w => SlR (CE encAt) 4 w p a.l) → (∀ e w', RetT A w (a, [], [], n) e w' → F e w') →
      sxStore w3 ⟨b1, 0, none⟩ 0 [(.int .i64 a.pre), (.int .i64 a.tries), (.int .i64 a.back), (.slice p a.l.length c)] fun w4 =>
        (∃ r_0 r_1 r_2 : Int, ∃ r_3_a : Option Addr, ∃ r_3_l r_3_c : Nat, cellsAt w4 ⟨b1, 0, none⟩ 0 [(.int .i64 r_0), (.int .i64 r_1), (.int .i64 r_2), (.slice r_3_a r_3_l r_3_c)] ∧
        F (.returned (.tuple #[(.agg #[.int .i64 r_0, .int .i64 r_1, .int .i64 r_2, .slice r_3_a r_3_l r_3_c]), (.slice none 0 0), (.slice none 0 0), (.int .i64 n)])) w4) := fun {w3} n {F} H3 hF => by
    refine H3.store (i := 1) rfl (by rfl) (by rfl) ?_; intro w4 H4
    refine ⟨_, _, _, _, _, _, H4.cells (i := 1) rfl, ?_⟩
    exact hF _ _ ⟨p, c, none, 0, none, 0, rfl, hcap, (H4.imp fun _ h => ⟨h, .inl rfl, .inl rfl⟩).fin⟩
  refine ⟨_, _, _, _, _, _, H2.cells (i := 0) rfl, ?_⟩
  refine (ref38_Check_ct H2.get hcap (by omega)).mono ?_
  rintro _ w3 ⟨rfl, hb3⟩; have H3 := H2.pass hb3; clear H2
  refine ⟨_, rfl, ?_⟩
  refine bsplit_nd (fun c10 => ?_) (fun c10 => ?_) --  (!decide (r = (0 : Int)))
  · have e : tickR a tick = (a, [], [], checkR a) := if_pos c10
    rw [e]
    refine ⟨_, _, _, _, _, _, H3.cells (i := 0) rfl, ?_⟩
    exact back (checkR a) (F := RetT A w (a, [], [], checkR a)) H3 fun _ _ h => h
  · have e0 : tickR a tick = if tick < 0 ∨ tick > 1048576 then (a, [], [], 3) else ({ a with l := (foldR a tick (nowL a.l tick).length).1 }, (foldR a tick (nowL a.l tick).length).2.1, (foldR a tick (nowL a.l tick).length).2.2, 0) := if_neg (by simpa using c10)
    rw [e0]
    obtain ⟨hbad, h16, hgood⟩ := checkR_ok c10
    have hb := hbad
    unfold BadR at hb
    have hnl := now_len a.l tick
    refine ⟨fun w7 => St A [] w w7 [acBlk b a p c, zeroAc b1] (fun w => SlR (CE encAt) 4 w p a.l) ∧ 0 ≤ tick ∧ tick ≤ 1048576, ?_, ?_⟩
    · rintro _ w7 ⟨H7, ht0, ht1⟩
      rw [if_neg (by omega)]
      refine ⟨fun n1 w9 => St A [] w w9 [acBlk b a p c, zeroAc b1] (fun w => SlR (CE encAt) 4 w p a.l) ∧ n1 = ((nowL a.l tick).length : Int), ?_, ?_⟩
      · rintro _ n1 w9 ⟨H9, rfl⟩
        generalize hn : (nowL a.l tick).length = n at *
        have hnow : a.l.take n = nowL a.l tick := by rw [← hn]; exact now_take _ _
        have hrest : a.l.drop n = restL a.l tick := by rw [← hn]; exact rest_drop _ _
        refine H9.ldS (i := 0) rfl rfl ?_
        refine ⟨⟨by omega, by omega⟩, ?_⟩ -- hi
        refine H9.alloc ?_; clear H9; intro b3 w10 H10
        have H10 := H10.litE encAt_ok (i := 2) [] rfl (by decide)
        refine H10.ldS (i := 0) rfl rfl ?_
        refine ⟨⟨by omega, by omega⟩, ?_⟩ -- lo
        simp only [Int.toNat_natCast, Nat.sub_zero]
        have hp2 : SlR (CE encAt) 4 w10 (slAddr c n 4 p) (restL a.l tick) := by rw [← hrest]; exact H10.get.tailE hcap
        rw [show Value.slice (slAddr c n 4 p) (a.l.length - n) (c - n) = .slice (slAddr c n 4 p) (restL a.l tick).length (c - n) by rw [show a.l.length - n = (restL a.l tick).length by omega]]
        refine H10.appE encAt_ok (i := 2) rfl sl_Ty_S_api_Attempt hp2 (by simp; omega) (by simp; omega) ?_; intro q d w11 H11
        rw [List.nil_append] at H11 ⊢
        have H11 := (H11.nilI Ty_int .i64).nilI Ty_int .i64
        refine ⟨fun ra rl rc ga gl gc da dl dc i => ((n - i).toNat, fun w12 => ∃ k : Nat, i = k ∧ k ≤ n ∧ rl = (foldR a tick k).1.length ∧ gl = (foldR a tick k).2.1.length ∧ dl = (foldR a tick k).2.2.length ∧
          St A [] w w12 [acBlk b a p c, zeroAc b1, .els encAt Ty_api_Attempt 4 ra rc (foldR a tick k).1, .ints Ty_int .i64 ga gc (foldR a tick k).2.1, .ints Ty_int .i64 da dc (foldR a tick k).2.2] (fun w => SlR (CE encAt) 4 w p a.l)), ⟨0, rfl, by omega, rfl, rfl, rfl, H11⟩, ?_⟩
        clear H11
        rintro _ ra rl rc ga gl gc da dl dc i w12 ⟨k, rfl, hk, rfl, rfl, rfl, H12⟩
        have hfl := foldR_len (a := a) (tick := tick) (k := k) (by omega)
        refine bsplit_dec (fun c9 => ?_) (fun c9 => ?_) --  (decide (i < n1))
        · have hlt : k < n := by omega
          have hlt' : k < (nowL a.l tick).length := by omega
          have hlen : (a.l.take n).length = n := by rw [hnow]; exact hn
          have hsn := slr_take H12.get c n
          have hix : ∀ {w' : World}, SlR (CE encAt) 4 w' p a.l → SlR (CE encAt) 4 w' (slAddr c 0 4 p) (nowL a.l tick) := fun h => by rw [← hnow]; exact slr_take h c n
          have hmem : (nowL a.l tick)[k] ∈ a.l := by
            have h9 : ∀ z, z ∈ nowL a.l tick → z ∈ a.l := fun z hz => by rw [← hnow] at hz; exact List.mem_of_mem_take hz
            exact h9 _ (List.getElem_mem hlt')
          obtain ⟨s1, s2, s3, s4⟩ := good_small hgood hmem
          have hfs := foldR_succ hlt'
          rw [← hn]
          refine ixE (hix H12.get) k rfl hlt' fun b4 s hsk hb4 => ?_
          obtain rfl : (nowL a.l tick)[k] = s := by rw [List.getElem?_eq_getElem hlt'] at hsk; injection hsk
          refine ⟨_, _, _, _, hb4, ?_⟩
          refine H12.alloc ?_; clear H12; intro b5 w13 H13
          refine H13.store (i := 5) rfl (by rfl) (by rfl) ?_; clear H13; intro w14 H14
          generalize hy : (nowL a.l tick)[k] = y at *
          refine ⟨fun alone i => ((n - i).toNat, fun w15 => ∃ j : Nat, i = j ∧ j ≤ n ∧ (alone = true ↔ ∀ m (hm : m < (nowL a.l tick).length), m < j → m ≠ k → (nowL a.l tick)[m].pre ≠ y.pre) ∧
            St A [] w w15 [acBlk b a p c, zeroAc b1, .els encAt Ty_api_Attempt 4 ra rc (foldR a tick k).1, .ints Ty_int .i64 ga gc (foldR a tick k).2.1, .ints Ty_int .i64 da dc (foldR a tick k).2.2, .blk b5 Ty_api_Attempt (encAt y)] (fun w => SlR (CE encAt) 4 w p a.l)), ⟨0, rfl, by omega, ⟨fun _ m _ h => by omega, fun _ => rfl⟩, H14⟩, ?_⟩
          clear H14
          rintro _ alone _ w15 ⟨j, rfl, hj, hal, H15⟩
          refine bsplit_dec (fun c8 => ?_) (fun c8 => ?_) --  (decide (k < n1))
          · have hjlt : j < (nowL a.l tick).length := by omega
            have ext : ∀ (q : Prop), (j ≠ k → ((nowL a.l tick)[j].pre ≠ y.pre ↔ q)) → (alone = true ∧ (j = k ∨ q) ↔ ∀ m (hm : m < (nowL a.l tick).length), m < j + 1 → m ≠ k → (nowL a.l tick)[m].pre ≠ y.pre) := fun q hq => by
              rw [hal]
              constructor
              · rintro ⟨h1, h2⟩ m hm hmj hmk
                rcases Nat.lt_or_ge m j with h' | h'
                · exact h1 m hm h' hmk
                · obtain rfl : m = j := by omega
                  exact (hq hmk).2 (h2.resolve_left hmk)
              · intro h
                refine ⟨fun m hm hmj hmk => h m hm (by omega) hmk, ?_⟩
                by_cases hjk : j = k
                · exact .inl hjk
                · exact .inr ((hq hjk).1 (h j hjlt (by omega) hjk))
            refine H15.drew ?_; clear H15; intro w16 H16
            refine bsplit_intro (fun c5 => ?_) (fun c5 => ?_) --  alone
            · refine bsplit_dec (fun c4 => ?_) (fun c4 => ?_) --  (decide (k = i))
              · refine kW_i64 (by omega) ?_
                exact ⟨⟨j + 1, by omega, by omega, ⟨fun _ => (ext True fun h => absurd (by omega) h).1 ⟨c5, .inr trivial⟩, fun _ => rfl⟩, H16⟩, by dsimp only; omega⟩
              · refine ixE (hix H16.get) j rfl hjlt fun b6 s hsk hb6 => ?_
                obtain rfl : (nowL a.l tick)[j] = s := by rw [List.getElem?_eq_getElem hjlt] at hsk; injection hsk
                refine ld_el (j := 1) hb6 rfl ?_
                refine H16.ld (i := 5) rfl rfl ?_
                refine kLet_in ?_
                refine kW_i64 (by omega) ?_
                have hjk : j ≠ k := by omega
                refine ⟨⟨j + 1, by omega, by omega, ?_, H16⟩, by dsimp only; omega⟩
                have := ext _ fun _ => Iff.rfl
                rw [← this]
                simp [c5, hjk]
            · refine kW_i64 (by omega) ?_
              refine ⟨⟨j + 1, by omega, by omega, ⟨fun h => (by cases h), fun h => ?_⟩, H16⟩, by dsimp only; omega⟩
              have := (hal.2 fun m hm hmj hmk => h m hm (by omega) hmk)
              rw [c5] at this; cases this
          · obtain rfl : j = n := by omega
            have hcnt : alone = true ↔ (nowL a.l tick).countP (fun z => decide (z.pre = y.pre)) = 1 := by
              have := alone_iff hlt'
              rw [hy] at this
              rw [← this, hal]
              exact ⟨fun h m hm hmk => h m hm (by omega) hmk, fun h m hm _ hmk => h m hm hmk⟩
            refine bsplit_intro (fun c7 => ?_) (fun c7 => ?_) --  alone
            · have hstep : foldR a tick (k + 1) = ((foldR a tick k).1, (foldR a tick k).2.1 ++ [y.id], (foldR a tick k).2.2) := by rw [hfs, stepR, if_pos (hcnt.1 c7)]
              refine H15.ld (i := 5) rfl rfl ?_
              refine H15.alloc ?_; clear H15; intro b7 w17 H17
              refine H17.appIB (i := 3) (j := 6) rfl [y.id] rfl sl_Ty_S_int rfl (by simp; omega) (by simp; omega) ?_; intro x_a5 x_c5 w18 H18
              refine kW_i64 (by omega) ?_ -- i + (1 : Int)
              refine ⟨⟨k + 1, by omega, by omega, by rw [hstep], by rw [hstep], by rw [hstep], ?_⟩, by dsimp only; omega⟩
              rw [hstep]
              exact (H18.dropLast (R := [_, _, _, _, _, _])).dropLast (R := [_, _, _, _, _])
            · have hn1 : ¬ (nowL a.l tick).countP (fun z => decide (z.pre = y.pre)) = 1 := fun h => by rw [hcnt.2 h] at c7; cases c7
              refine H15.ld (i := 5) rfl rfl ?_
              refine kW_i64 (by omega) ?_ -- x_3 + (1 : Int)
              refine H15.set (i := 5) rfl (by show 3 < 4; decide) ?_; clear H15; intro w19 H19
              refine H19.ld (i := 5) rfl rfl ?_
              refine H19.ld (i := 0) rfl rfl ?_
              refine bsplit_dec (fun c6 => ?_) (fun c6 => ?_) --  (decide ((x_3 + (1 : Int)) = a_1))
              · have hstep : foldR a tick (k + 1) = ((foldR a tick k).1, (foldR a tick k).2.1, (foldR a tick k).2.2 ++ [y.id]) := by rw [hfs, stepR, if_neg hn1, if_pos c6]
                refine H19.ld (i := 5) rfl rfl ?_
                refine H19.alloc ?_; clear H19; intro b8 w20 H20
                refine H20.appIB (i := 4) (j := 6) rfl [y.id] rfl sl_Ty_S_int rfl (by simp; omega) (by simp; omega) ?_; intro x_a6 x_c6 w21 H21
                refine kW_i64 (by omega) ?_ -- i + (1 : Int)
                refine ⟨⟨k + 1, by omega, by omega, by rw [hstep], by rw [hstep], by rw [hstep], ?_⟩, by dsimp only; omega⟩
                rw [hstep]
                exact (H21.dropLast (R := [_, _, _, _, _, _])).dropLast (R := [_, _, _, _, _])
              · have hstep : foldR a tick (k + 1) = (putR (foldR a tick k).1 (movedR a tick y), (foldR a tick k).2.1, (foldR a tick k).2.2) := by rw [hfs, stepR, if_neg hn1, if_neg c6]
                refine H19.ld (i := 5) rfl rfl ?_
                refine H19.ld (i := 5) rfl rfl ?_
                refine H19.ld (i := 0) rfl rfl ?_
                refine ref38_Preamble_ct.mono ?_
                rintro _ w22 ⟨rfl, hb22⟩; have H22 := H19.pass hb22; clear H19
                refine ⟨_, rfl, ?_⟩
                refine H22.set (i := 5) rfl (by show 1 < 4; decide) ?_; clear H22; intro w23 H23
                refine kW_i64 (by omega) ?_ -- tick + (1 : Int)
                refine H23.ld (i := 5) rfl rfl ?_
                refine kW_i64 (by omega) ?_ -- (17 : Int) * x_04
                refine H23.ld (i := 5) rfl rfl ?_
                refine kW_i64 (by omega) ?_ -- (5 : Int) * (x_3 + (1 : Int))
                refine kW_i64 (by omega) ?_
                refine H23.ld (i := 0) rfl rfl ?_
                refine kW_i64 (by omega) ?_ -- a_2 + (1 : Int)
                refine ⟨by omega, ?_⟩
                refine kTmod (by omega) ?_
                have hem := emod_small (x := 17 * y.id + 5 * (y.tries + 1)) (m := a.back + 1) (by omega)
                refine kW_i64 (by omega) ?_
                refine H23.set (i := 5) rfl (by show 2 < 4; decide) ?_; clear H23; intro w24 H24
                replace H24 : St A [] w w24 [acBlk b a p c, zeroAc b1, .els encAt Ty_api_Attempt 4 ra rc (foldR a tick k).1, .ints Ty_int .i64 ga gc (foldR a tick k).2.1, .ints Ty_int .i64 da dc (foldR a tick k).2.2, .blk b5 Ty_api_Attempt (encAt (movedR a tick y))] (fun w => SlR (CE encAt) 4 w p a.l) := H24
                refine ⟨_, _, _, _, H24.cells (i := 5) rfl, ?_⟩
                refine (ref38_put_ct (x := movedR a tick y) (H24.slE encAt_ok (i := 2) rfl) (H24.capE (i := 2) rfl) (by omega)).mono ?_
                rintro _ w25 ⟨q', d', rfl, K⟩
                have H25 := H24.callR K
                refine ⟨_, _, _, rfl, ?_⟩
                refine kW_i64 (by omega) ?_ -- i + (1 : Int)
                refine ⟨⟨k + 1, by omega, by omega, by rw [hstep], by rw [hstep], by rw [hstep], ?_⟩, by dsimp only; omega⟩
                rw [hstep]
                exact (St.lastAt (R := [_, _, _, _, _, _]) (i := 2) H25 (by simp)).dropLast (R := [_, _, _, _, _])
        · obtain rfl : k = n := by omega
          refine H12.set (i := 0) rfl (by simp) ?_; clear H12; intro w26 H26
          refine ⟨_, _, _, _, _, _, H26.cells (i := 0) rfl, ?_⟩
          refine H26.store (i := 1) rfl (by rfl) (by rfl) ?_; clear H26; intro w27 H27
          refine ⟨_, _, _, _, _, _, H27.cells (i := 1) rfl, ?_⟩
          have hcp := H27.capE (i := 2) rfl
          have H28 := ((H27.shareE encAt_ok (i := 2) rfl).shareI (i := 3) rfl).shareI (i := 4) rfl
          exact ⟨_, _, _, _, _, _, rfl, hcp, (H28.imp fun _ h => ⟨h.2.2.1, h.2.1, h.1⟩).fin⟩
      · refine ⟨fun n => ((a.l.length - n).toNat, fun w8 => ∃ k : Nat, n = k ∧ k ≤ a.l.length ∧ (∀ j (hj : j < a.l.length), j < k → decide (a.l[j].at_ ≤ tick) = true) ∧ St A [] w w8 [acBlk b a p c, zeroAc b1] (fun w => SlR (CE encAt) 4 w p a.l)), ⟨0, rfl, by omega, fun j _ h => by omega, H7⟩, ?_⟩
        clear H7
        rintro _ _ w8 ⟨k, rfl, hk, hI, H8⟩
        have out : (∀ hk : k < a.l.length, decide (a.l[k].at_ ≤ tick) = false) → (k : Int) = ((nowL a.l tick).length : Int) := fun h => by
          have := (while_at (p := fun x => decide (x.at_ ≤ tick)) hk hI h).1
          have e : nowL a.l tick = a.l.take k := this
          rw [e, List.length_take]; omega
        refine H8.ldS (i := 0) rfl rfl ?_
        refine bsplit_dec (fun c3 => ?_) (fun c3 => ?_)
        · have hlt : k < a.l.length := by omega
          refine H8.ldS (i := 0) rfl rfl ?_
          refine ixE H8.get k rfl hlt fun b2 s hsk hb2 => ?_
          obtain rfl : a.l[k] = s := by rw [List.getElem?_eq_getElem hlt] at hsk; injection hsk
          refine ld_el (j := 2) hb2 rfl ?_
          refine bsplit_dec (fun c2 => ?_) (fun c2 => ?_)
          · refine kW_i64 (by omega) ?_
            exact ⟨⟨k + 1, by omega, by omega, fun j hj h => by
              rcases Nat.lt_or_ge j k with h' | h'
              · exact hI j hj h'
              · obtain rfl : j = k := by omega
                simpa using c2, H8⟩, by dsimp only; omega⟩
          · exact ⟨H8, out fun _ => by simpa using c2⟩
        · exact ⟨H8, out fun h => by omega⟩
    · refine bsplit_dec (fun c1 => ?_) (fun c1 => ?_)
      · rw [if_pos (by omega)]
        refine ⟨_, _, _, _, _, _, H3.cells (i := 0) rfl, ?_⟩
        exact back 3 (F := RetT A w (a, [], [], 3)) H3 fun _ _ h => h
      · refine bsplit_dec (fun c => ?_) (fun c => ?_)
        · rw [if_pos (by omega)]
          refine ⟨_, _, _, _, _, _, H3.cells (i := 0) rfl, ?_⟩
          exact back 3 (F := RetT A w (a, [], [], 3)) H3 fun _ _ h => h
        · exact ⟨H3, by omega, by omega⟩
end
end Go.Proofs.Ytgmniohbnophdaa
