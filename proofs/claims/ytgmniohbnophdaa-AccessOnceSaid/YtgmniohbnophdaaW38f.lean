import Derived.Test.YtgmniohbnophdaaW38e
/- CHAPTER 38: Begin (both), Delete, Stop (both). -/
set_option maxRecDepth 100000
namespace Go.Proofs.Ytgmniohbnophdaa
open Go.Sx Go.RowKit Go.P38
section
variable {A : Nat → Prop} {w : World} {p : Option Addr} {c : Nat} {a : Ac} {id tick : Int} {x : At}
theorem retH {A : Nat → Prop} {w w' : World} {mk : Value → Value} {a : Ac} {R : List Res} {Q : World → Prop} {p : Option Addr} {c : Nat} (hc : a.l.length ≤ c) (H : St A [] w w' R Q) (hq : ∀ w, Q w → SlR (CE encAt) 4 w p a.l) : RetH A w mk a (.returned (mk (aggAc a p c))) w' :=
  ⟨p, c, rfl, hc, (H.imp hq).fin⟩
abbrev acBlk (b : Nat) (a : Ac) (p : Option Addr) (c : Nat) : Res := .blk b Ty_api_Access (encAc a p c)
abbrev zeroAc (b : Nat) : Res := .blk b Ty_api_Access [.int .i64 0, .int .i64 0, .int .i64 0, .slice none 0 0]
theorem access_Begin_ct (hA : Held A w fun w => SlR (CE encAt) 4 w p a.l) (hcap : a.l.length ≤ c) (hl : a.l.length ≤ 800000) :
    Calls Try.prog N_access_Begin #[aggAc a p c, .int .i64 id, .int .i64 tick] w (RetH A w (fun v => .tuple #[v, .int .i64 (beginR a id tick).2]) (beginR a id tick).1) := by
  apply F_access_Begin_ok
  unfold F_access_Begin
  have H := St.start hA
  refine H.alloc ?_; clear H; intro b w1 H1
  refine H1.alloc ?_; clear H1; intro b1 w2 H2
  replace H2 : St A [] w w2 [acBlk b a p c, zeroAc b1] (fun w => SlR (CE encAt) 4 w p a.l) := H2
  refine ⟨_, _, _, _, _, _, H2.cells (i := 0) rfl, ?_⟩
  refine (access_Check_ct H2.get hcap (by omega)).mono ?_
  rintro _ w3 ⟨rfl, hb3⟩; have H3 := H2.pass hb3; clear H2
  refine ⟨_, rfl, ?_⟩
  have back : ∀ {w7 : World} (n : Int) {F : Ending → World → Prop}, St A [] w w7 [acBlk b a p c, zeroAc b1] (fun w => SlR (CE encAt) 4 w p a.l) → (∀ e w', RetH A w (fun v => .tuple #[v, .int .i64 n]) a e w' → F e w') →
      Calls Try.prog N_access_clone #[aggAc a p c] w7 fun e_ w4 => ∃ r_0 r_1 r_2 : Int, ∃ r_3_a : Option Addr, ∃ r_3_l r_3_c : Nat, e_ = .returned (.agg #[.int .i64 r_0, .int .i64 r_1, .int .i64 r_2, .slice r_3_a r_3_l r_3_c]) ∧
        (sxStore w4 ⟨b1, 0, none⟩ 0 [(.int .i64 r_0), (.int .i64 r_1), (.int .i64 r_2), (.slice r_3_a r_3_l r_3_c)] fun w5 =>
        (∃ r_01 r_11 r_21 : Int, ∃ r_3_a1 : Option Addr, ∃ r_3_l1 r_3_c1 : Nat, cellsAt w5 ⟨b1, 0, none⟩ 0 [(.int .i64 r_01), (.int .i64 r_11), (.int .i64 r_21), (.slice r_3_a1 r_3_l1 r_3_c1)] ∧
        F (.returned (.tuple #[(.agg #[.int .i64 r_01, .int .i64 r_11, .int .i64 r_21, .slice r_3_a1 r_3_l1 r_3_c1]), (.int .i64 n)])) w5)) := fun {w7} n {F} H7 hF => by
    obtain ⟨A', _, hc'⟩ := St.callH H7
    refine (clone_H H7.get (by omega) A').mono ?_
    rintro _ w8 ⟨p', c', rfl, h9, K⟩
    have H8 := hc' K
    refine ⟨_, _, _, _, _, _, rfl, ?_⟩
    refine H8.store (i := 1) rfl (by rfl) (by rfl) ?_; clear H8; intro w9 H9
    refine ⟨_, _, _, _, _, _, H9.cells (i := 1) rfl, ?_⟩
    exact hF _ _ (retH h9 H9 fun _ h => h.1)
  refine bsplit_nd (fun c5 => ?_) (fun c5 => ?_) --  (!decide (r = (0 : Int)))
  · refine ⟨_, _, _, _, _, _, H3.cells (i := 0) rfl, ?_⟩
    have e : beginR a id tick = (a, checkR a) := if_pos c5
    rw [e]
    exact back (checkR a) (F := RetH A w (fun v => .tuple #[v, .int .i64 (checkR a)]) a) H3 fun _ _ h => h
  · have e0 : beginR a id tick = if id < 0 ∨ id ≥ 65536 ∨ tick < 0 ∨ tick > 1048576 then (a, 3) else if hasR a.l id then (a, 12) else if a.l.length = 16 then (a, 13) else ({ a with l := putR a.l ⟨id, preR id 0 a.pre, tick, 0⟩ }, 0) := if_neg (by simpa using c5)
    rw [e0]
    obtain ⟨_, h16, hgood⟩ := checkR_ok c5
    refine ⟨fun x1 w7 => St A [] w w7 [acBlk b a p c, zeroAc b1] (fun w => SlR (CE encAt) 4 w p a.l) ∧ (x1 = true ↔ id < 0 ∨ id ≥ 65536 ∨ tick < 0 ∨ tick > 1048576), ?_, ?_⟩
    · rintro _ x1 w7 ⟨H7, hj⟩
      refine bsplit_intro (fun c4 => ?_) (fun c4 => ?_) --  x1
      · refine ⟨_, _, _, _, _, _, H7.cells (i := 0) rfl, ?_⟩
        rw [if_pos (hj.1 c4)]
        exact back 3 (F := RetH A w (fun v => .tuple #[v, .int .i64 3]) a) H7 fun _ _ h => h
      · have hn : ¬ (id < 0 ∨ id ≥ 65536 ∨ tick < 0 ∨ tick > 1048576) := fun h => by rw [hj.2 h] at c4; cases c4
        rw [if_neg hn]
        refine H7.ldS (i := 0) rfl rfl ?_
        refine (access_find_ct H7.get (by omega)).mono ?_
        rintro _ w10 ⟨rfl, hb10⟩; have H10 := H7.pass hb10; clear H7
        refine ⟨_, rfl, ?_⟩
        refine kLet_in ?_
        rw [idx_has]
        refine bsplit_intro (fun c3 => ?_) (fun c3 => ?_)
        · refine ⟨_, _, _, _, _, _, H10.cells (i := 0) rfl, ?_⟩
          rw [if_pos c3]
          exact back 12 (F := RetH A w (fun v => .tuple #[v, .int .i64 12]) a) H10 fun _ _ h => h
        · rw [if_neg (by simp [c3])]
          refine H10.ldS (i := 0) rfl rfl ?_
          refine kLet_in ?_
          refine bsplit_dec (fun c2 => ?_) (fun c2 => ?_)
          · refine ⟨_, _, _, _, _, _, H10.cells (i := 0) rfl, ?_⟩
            rw [if_pos (by omega)]
            exact back 13 (F := RetH A w (fun v => .tuple #[v, .int .i64 13]) a) H10 fun _ _ h => h
          · rw [if_neg (by omega)]
            refine H10.drew ?_; clear H10; intro w15 H15
            refine ⟨fun x => x = b, ?_⟩
            refine ⟨rfl, ?_⟩
            refine ⟨_, _, _, _, _, _, H15.cells (i := 0) rfl, ?_⟩
            refine H15.ld (i := 0) rfl rfl ?_
            refine access_Preamble_ct.mono ?_
            rintro _ w16 ⟨rfl, hb16⟩; have H16 := H15.pass hb16
            refine ⟨_, rfl, ?_⟩
            refine ⟨keepB1 (H15.ok 0 _ rfl) (H16.ok 0 _ rfl), ?_⟩
            refine ⟨keepB1 (H15.ok 0 _ rfl) (H16.ok 0 _ rfl), ?_⟩
            refine (with_ct (x := ⟨id, preR id 0 a.pre, tick, 0⟩) H16.get (by omega) (hgood.asc.mono _)).mono ?_
            rintro _ w17 ⟨p', c', rfl, K⟩
            obtain ⟨k1, k2⟩ := fresh_held K
            obtain ⟨A', _, hc'⟩ := St.callH H16
            have H17 := hc' (k2 A')
            refine ⟨_, _, _, _, _, _, rfl, ?_⟩
            refine ⟨keepB1 (H15.ok 0 _ rfl) (H17.ok 0 _ rfl), ?_⟩
            refine H17.store (i := 1) rfl (by rfl) (by rfl) ?_; intro w18 H18
            refine ⟨keepB1 (H15.ok 0 _ rfl) (H18.ok 0 _ rfl), ?_⟩
            refine ⟨_, _, _, _, _, _, H18.cells (i := 1) rfl, ?_⟩
            exact retH (a := { a with l := putR a.l ⟨id, preR id 0 a.pre, tick, 0⟩ }) k1 H18 fun _ h => h.1
    · refine access_known_ct.mono ?_
      rintro _ w6 ⟨rfl, hb6⟩; have H6 := H3.pass hb6; clear H3
      refine ⟨_, rfl, ?_⟩
      refine bsplit_n (fun c1 => ?_) (fun c1 => ?_) --  (!r1)
      · have := of_decide_eq_false c1
        exact ⟨H6, by simp; omega⟩
      · have c1 := of_decide_eq_true c1
        refine bsplit_dec (fun c => ?_) (fun c => ?_) --  (decide (tick < (0 : Int)))
        · exact ⟨H6, by simp; omega⟩
        · refine kLet_in ?_
          exact ⟨H6, by simp only [decide_eq_true_eq]; omega⟩
theorem ref38_Begin_ct (hA : Held A w fun w => SlR (CE encAt) 4 w p a.l) (hcap : a.l.length ≤ c) (hl : a.l.length ≤ 800000) :
    Calls Try.prog N_ref38_Begin #[aggAc a p c, .int .i64 id, .int .i64 tick] w (RetH A w (fun v => .tuple #[v, .int .i64 (beginR a id tick).2]) (beginR a id tick).1) := by
  apply F_ref38_Begin_ok
  unfold F_ref38_Begin
  have H := St.start hA
  refine H.alloc ?_; clear H; intro b w1 H1
  refine H1.alloc ?_; clear H1; intro b1 w2 H2
  replace H2 : St A [] w w2 [acBlk b a p c, zeroAc b1] (fun w => SlR (CE encAt) 4 w p a.l) := H2
  refine ⟨_, _, _, _, _, _, H2.cells (i := 0) rfl, ?_⟩
  refine (ref38_Check_ct H2.get hcap (by omega)).mono ?_
  rintro _ w3 ⟨rfl, hb3⟩; have H3 := H2.pass hb3; clear H2
  refine ⟨_, rfl, ?_⟩
  refine bsplit_nd (fun c5 => ?_) (fun c5 => ?_) --  (!decide (r = (0 : Int)))
  · refine ⟨_, _, _, _, _, _, H3.cells (i := 0) rfl, ?_⟩
    have e : beginR a id tick = (a, checkR a) := if_pos c5
    rw [e]
    refine H3.store (i := 1) rfl (by rfl) (by rfl) ?_; clear H3; intro w4 H4
    refine ⟨_, _, _, _, _, _, H4.cells (i := 1) rfl, ?_⟩
    exact retH hcap H4 fun _ h => h
  · have e0 : beginR a id tick = if id < 0 ∨ id ≥ 65536 ∨ tick < 0 ∨ tick > 1048576 then (a, 3) else if hasR a.l id then (a, 12) else if a.l.length = 16 then (a, 13) else ({ a with l := putR a.l ⟨id, preR id 0 a.pre, tick, 0⟩ }, 0) := if_neg (by simpa using c5)
    rw [e0]
    obtain ⟨_, h16, hgood⟩ := checkR_ok c5
    refine ⟨fun x1 w7 => St A [] w w7 [acBlk b a p c, zeroAc b1] (fun w => SlR (CE encAt) 4 w p a.l) ∧ (x1 = true ↔ id < 0 ∨ id ≥ 65536 ∨ tick < 0 ∨ tick > 1048576), ?_, ?_⟩
    · rintro _ x1 w7 ⟨H7, hj⟩
      refine bsplit_intro (fun c4 => ?_) (fun c4 => ?_) --  x1
      · refine ⟨_, _, _, _, _, _, H7.cells (i := 0) rfl, ?_⟩
        rw [if_pos (hj.1 c4)]
        refine H7.store (i := 1) rfl (by rfl) (by rfl) ?_; clear H7; intro w4 H4
        refine ⟨_, _, _, _, _, _, H4.cells (i := 1) rfl, ?_⟩
        exact retH hcap H4 fun _ h => h
      · have hn : ¬ (id < 0 ∨ id ≥ 65536 ∨ tick < 0 ∨ tick > 1048576) := fun h => by rw [hj.2 h] at c4; cases c4
        rw [if_neg hn]
        refine H7.ldS (i := 0) rfl rfl ?_
        refine (ref38_has_ct H7.get (by omega)).mono ?_
        rintro _ w10 ⟨rfl, hb10⟩; have H10 := H7.pass hb10; clear H7
        refine ⟨_, rfl, ?_⟩
        refine bsplit_intro (fun c3 => ?_) (fun c3 => ?_)
        · refine ⟨_, _, _, _, _, _, H10.cells (i := 0) rfl, ?_⟩
          rw [if_pos c3]
          refine H10.store (i := 1) rfl (by rfl) (by rfl) ?_; clear H10; intro w4 H4
          refine ⟨_, _, _, _, _, _, H4.cells (i := 1) rfl, ?_⟩
          exact retH hcap H4 fun _ h => h
        · rw [if_neg (by simp [c3])]
          refine H10.ldS (i := 0) rfl rfl ?_
          refine kLet_in ?_
          refine bsplit_dec (fun c2 => ?_) (fun c2 => ?_)
          · refine ⟨_, _, _, _, _, _, H10.cells (i := 0) rfl, ?_⟩
            rw [if_pos (by omega)]
            refine H10.store (i := 1) rfl (by rfl) (by rfl) ?_; clear H10; intro w4 H4
            refine ⟨_, _, _, _, _, _, H4.cells (i := 1) rfl, ?_⟩
            exact retH hcap H4 fun _ h => h
          · rw [if_neg (by omega)]
            refine H10.drew ?_; clear H10; intro w15 H15
            refine ⟨fun x => x = b, ?_⟩
            refine ⟨rfl, ?_⟩
            refine H15.ldS (i := 0) rfl rfl ?_
            refine H15.ld (i := 0) rfl rfl ?_
            refine ref38_Preamble_ct.mono ?_
            rintro _ w16 ⟨rfl, hb16⟩; have H16 := H15.pass hb16
            refine ⟨_, rfl, ?_⟩
            refine ⟨keepB1 (H15.ok 0 _ rfl) (H16.ok 0 _ rfl), ?_⟩
            refine ⟨keepB1 (H15.ok 0 _ rfl) (H16.ok 0 _ rfl), ?_⟩
            refine (ref38_put_ct (x := ⟨id, preR id 0 a.pre, tick, 0⟩) H16.get hcap (by omega)).mono ?_
            rintro _ w17 ⟨p', c', rfl, K⟩
            obtain ⟨k1, k2⟩ := fresh_held K
            obtain ⟨A', _, hc'⟩ := St.callH H16
            have H17 := hc' (k2 A')
            refine ⟨_, _, _, rfl, ?_⟩
            refine ⟨keepB1 (H15.ok 0 _ rfl) (H17.ok 0 _ rfl), ?_⟩
            refine H17.set (i := 0) rfl (by simp) ?_; intro w18 H18
            refine ⟨_, _, _, _, _, _, H18.cells (i := 0) rfl, ?_⟩
            refine H18.store (i := 1) rfl (by rfl) (by rfl) ?_; clear H18; intro w19 H19
            refine ⟨_, _, _, _, _, _, H19.cells (i := 1) rfl, ?_⟩
            exact retH (a := { a with l := putR a.l ⟨id, preR id 0 a.pre, tick, 0⟩ }) k1 H19 fun _ h => h.1
    · refine bsplit_dec (fun c => ?_) (fun c => ?_)
      · exact ⟨H3, by simp; omega⟩
      refine bsplit_dec (fun c => ?_) (fun c => ?_)
      · exact ⟨H3, by simp; omega⟩
      refine bsplit_dec (fun c => ?_) (fun c => ?_)
      · exact ⟨H3, by simp; omega⟩
      refine kLet_in ?_
      exact ⟨H3, by simp only [decide_eq_true_eq]; omega⟩
end
end Go.Proofs.Ytgmniohbnophdaa
