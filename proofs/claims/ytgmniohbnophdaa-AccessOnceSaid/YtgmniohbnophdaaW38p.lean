import Derived.Test.YtgmniohbnophdaaW38k
import Derived.Test.YtgmniohbnophdaaW38i
import Derived.Test.YtgmniohbnophdaaP38b
import Derived.Test.YtgmniohbnophdaaFxAccessOnce
/- CHAPTER 38: AccessOnce. -/
set_option maxRecDepth 100000
namespace Go.Proofs.Ytgmniohbnophdaa
open Go.Sx Go.RowKit Go.P38
theorem mem_take1 {xs : List Int} {k : Nat} (hk : k < xs.length) (z : Int) : z ∈ xs.take (k + 1) ↔ z ∈ xs.take k ∨ z = xs[k] := by
  rw [List.take_add_one, List.getElem?_eq_getElem hk, List.mem_append]
  simp only [Option.toList_some, List.mem_singleton]
theorem count_take1 {g : List Int} {k : Nat} (hk : k < g.length) (z : Int) : (g.take (k + 1)).count z = (g.take k).count z + if g[k] = z then 1 else 0 := by
  rw [List.take_add_one, List.getElem?_eq_getElem hk, List.count_append]
  by_cases hz : g[k] = z
  · simp [hz]
  · simp [hz]
/-- what ended says: whoever has begun has ended where it is no longer among the attempts -/
abbrev Ended (kn : List Int) (es : List (Int × Int)) (f : Int → Nat) : Prop := ∀ z, lookI es z = if z ∈ kn then some ((f z : Nat) : Int) else none
theorem Ended.upd {kn : List Int} {es : List (Int × Int)} {f : Int → Nat} (h : Ended kn es f) {x : Int} (hx : x ∈ kn) {v : Int} (hv : v = f x + 1) : Ended kn (updI es x v) fun z => f z + if x = z then 1 else 0 := fun z => by
  rw [lookI_updI, h]
  by_cases hz : z = x
  · subst hz; simp [hx, hv]
  · have hz' : ¬ x = z := fun e => hz e.symm
    simp [hz, hz']
section
variable {w : World} {xs : List Int} {p : Option Addr} {c : Nat} {pr tr bo : Int}
theorem law38_AccessOnce_ct (hs : SlR (IntC .u8) 1 w p xs) (hxb : ∀ i (h : i < xs.length), 0 ≤ xs[i] ∧ xs[i] ≤ 255) (hpr : 0 ≤ pr ∧ pr ≤ 255) (htr : 0 ≤ tr ∧ tr ≤ 255) (hbo : 0 ≤ bo ∧ bo ≤ 255) :
    Calls Try.prog N_law38_AccessOnce #[.slice p xs.length c, .int .u8 pr, .int .u8 tr, .int .u8 bo] w fun e w' => e = .returned (.bool true) ∧ Below w.heap.size w w' := by
  apply F_law38_AccessOnce_ok
  unfold F_law38_AccessOnce
  have H := St.start (slr_held hs)
  refine kW_i64 (by omega) ?_
  refine kTmod (by omega) ?_
  have e1 := emod_small (x := pr) (m := 8) (by omega)
  refine kW_i64 (by omega) ?_
  refine kW_i64 (by omega) ?_
  refine kTmod (by omega) ?_
  have e2 := emod_small (x := tr) (m := 6) (by omega)
  refine kW_i64 (by omega) ?_
  refine kW_i64 (by omega) ?_
  refine kTmod (by omega) ?_
  have e3 := emod_small (x := bo) (m := 20) (by omega)
  generalize hP : (1 : Int) + pr % 8 = P at *
  generalize hT : (1 : Int) + tr % 6 = T at *
  generalize hB : bo % 20 = B at *
  have hP2 : 1 ≤ P ∧ P ≤ 8 := by omega
  have hT2 : 1 ≤ T ∧ T ≤ 6 := by omega
  refine H.alloc ?_; clear H; intro b w1 H1
  refine H1.store (i := 0) rfl (by rfl) (by rfl) ?_; clear H1; intro w2 H2
  refine H2.mkMap ?_; clear H2; intro m w3 H3
  obtain ⟨n, hn, hn12, hnl⟩ : ∃ n : Nat, (if (12 : Int) < (xs.length : Int) then (12 : Int) else (xs.length : Int)) = n ∧ n ≤ 12 ∧ n ≤ xs.length := by
    by_cases h : (12 : Int) < (xs.length : Int)
    · exact ⟨12, by rw [if_pos h]; rfl, by omega, by omega⟩
    · exact ⟨xs.length, by rw [if_neg h], by omega, by omega⟩
  refine kLet_in ?_
  rw [hn]
  refine ⟨fun i => ((n - i).toNat, fun w4 => ∃ (k : Nat) (l : List At) (es : List (Int × Int)) (q : Option Addr) (d : Nat), i = k ∧ k ≤ n ∧ Val ⟨P, T, B, l⟩ ∧ l.length ≤ k ∧ l.length ≤ d ∧ (∀ x ∈ l, 0 ≤ x.at_ ∧ x.at_ ≤ 20 * x.tries) ∧
    (∀ z, (ids l).count z = if z ∈ xs.take k then 1 else 0) ∧ Ended (xs.take k) es (fun _ => 0) ∧
    St (All w) [] w w4 [acBlk b ⟨P, T, B, l⟩ q d, .map m es] (fun w => SlR (CE encAt) 4 w q l ∧ SlR (IntC .u8) 1 w p xs)),
    ⟨0, [], [], none, 0, rfl, by omega, ⟨by unfold BadR; dsimp only; omega, by simp, fun x hx => by simp at hx, fun z => by simp [ids], fun i j hi => by simp at hi⟩, by simp, by simp, fun x hx => by simp at hx, fun z => by simp [ids], fun z => by simp [lookI], H3.imp fun _ h => ⟨.inl rfl, h⟩⟩, ?_⟩
  clear H3
  rintro _ _ w4 ⟨k, l, es, q, d, rfl, hk, hV, hlk, hld, hat, hcn, hen, H4⟩
  refine bsplit_dec (fun c1 => ?_) (fun c1 => ?_)
  · -- one begins
    have hkl : k < xs.length := by omega
    have hx := hxb k hkl
    generalize hxk : xs[k] = x at *
    have hbeg := begin_once hV (id := x) (by omega) (by show l.length < 16; omega)
    refine ⟨fun a1 e1 w12 => ∃ b3 q' d', a1 = ⟨b3, 0, none⟩ ∧ e1 = (beginR ⟨P, T, B, l⟩ x 0).2 ∧ (beginR ⟨P, T, B, l⟩ x 0).1.l.length ≤ d' ∧
      St (All w) [] w w12 [acBlk b ⟨P, T, B, l⟩ q d, .map m es, acBlk b3 (beginR ⟨P, T, B, l⟩ x 0).1 q' d'] (fun w => SlR (CE encAt) 4 w q' (beginR ⟨P, T, B, l⟩ x 0).1.l ∧ SlR (IntC .u8) 1 w p xs), ?_, ?_⟩
    · clear H4
      rintro _ _ _ w12 ⟨b3, q', d', rfl, rfl, hd', H12⟩
      refine ixE H12.get.2 k rfl hkl fun b4 s hsk hb4 => ?_
      obtain rfl : x = s := by rw [List.getElem?_eq_getElem hkl, hxk] at hsk; injection hsk
      refine ⟨_, hb4, ?_⟩
      refine kW_i64 (by omega) ?_
      refine H12.look (i := 1) rfl ?_
      have hmem : (x ∈ xs.take k) ↔ hasR l x = true := by
        rw [count_has, hcn]
        by_cases h : x ∈ xs.take k
        · simp [h]
        · simp [h]
      have hsame : (lookI es x).isSome = decide ((beginR ⟨P, T, B, l⟩ x 0).2 = 12) := by
        rw [hen]
        rcases hbeg with ⟨h1, h2⟩ | ⟨h1, h2, _⟩
        · rw [h2, if_pos (hmem.2 h1)]; rfl
        · rw [h2, if_neg (fun h => by rw [hmem.1 h] at h1; cases h1)]; rfl
      rw [hsame]
      refine bsplit_intro (fun c => by simp at c) (fun _ => ?_)
      refine ixE H12.get.2 k rfl hkl fun b5 s hsk hb5 => ?_
      obtain rfl : x = s := by rw [List.getElem?_eq_getElem hkl, hxk] at hsk; injection hsk
      refine ⟨_, hb5, ?_⟩
      refine kW_i64 (by omega) ?_
      refine H12.mapSet (i := 1) rfl ?_; clear H12; intro w13 H13
      refine ⟨_, _, _, _, _, _, H13.cells (i := 2) rfl, ?_⟩
      refine H13.store (i := 0) rfl (by rfl) (by rfl) ?_; clear H13; intro w14 H14
      refine kW_i64 (by omega) ?_
      have hen' : Ended (xs.take (k + 1)) (updI es x 0) (fun _ => 0) := fun z => by
        rw [lookI_updI, hen]
        have hm := mem_take1 hkl z
        rw [hxk] at hm
        by_cases hz : z = x
        · rw [if_pos hz, if_pos (hm.2 (.inr hz))]; rfl
        · rw [if_neg hz]
          by_cases hz2 : z ∈ xs.take k
          · rw [if_pos hz2, if_pos (hm.2 (.inl hz2))]
          · rw [if_neg hz2, if_neg (fun h => (hm.1 h).elim hz2 hz)]
      rcases hbeg with ⟨h1, h2⟩ | ⟨h1, h2, h3⟩
      · rw [h2] at H14 hd'
        refine ⟨⟨k + 1, l, _, q', d', by omega, by omega, hV, by omega, hd', hat, fun z => ?_, hen', (H14.dropLast (R := [_, _]))⟩, by dsimp only; omega⟩
        rw [hcn]
        have hm := mem_take1 hkl z
        rw [hxk] at hm
        by_cases hz2 : z ∈ xs.take k
        · rw [if_pos hz2, if_pos (hm.2 (.inl hz2))]
        · by_cases hz : z = x
          · rw [hz] at hz2; exact absurd (hmem.2 h1) hz2
          · rw [if_neg hz2, if_neg (fun h => (hm.1 h).elim hz2 hz)]
      · rw [h2] at H14 hd'
        refine ⟨⟨k + 1, putR l ⟨x, preR x 0 P, 0, 0⟩, _, q', d', by omega, by omega, h3, by rw [putR_len]; omega, hd', fun y hy => ?_, fun z => ?_, hen', (H14.dropLast (R := [_, _]))⟩, by dsimp only; omega⟩
        · rcases putR_mem hy with rfl | hy
          · exact ⟨Int.le_refl 0, by show (0 : Int) ≤ 20 * 0; omega⟩
          · exact hat y hy
        · rw [putR_count, hcn]
          have hm := mem_take1 hkl z
          rw [hxk] at hm
          have hnx : ¬ x ∈ xs.take k := fun h => by rw [hmem.1 h] at h1; cases h1
          show (if z ∈ xs.take k then 1 else 0) + (if x = z then 1 else 0) = _
          by_cases hz : z = x
          · subst hz
            rw [if_neg hnx, if_pos rfl, if_pos (hm.2 (.inr rfl))]
          · rw [if_neg (fun h : x = z => hz h.symm)]
            by_cases hz2 : z ∈ xs.take k
            · rw [if_pos hz2, if_pos (hm.2 (.inl hz2))]
            · rw [if_neg hz2, if_neg (fun h => (hm.1 h).elim hz2 hz)]
    · refine H4.drew ?_; clear H4; intro w5 H5
      refine ⟨fun _ => True, trivial, ?_⟩
      refine ⟨_, _, _, _, _, _, H5.cells (i := 0) rfl, ?_⟩
      refine ixE H5.get.2 k rfl hkl fun b1 s hsk hb1 => ?_
      obtain rfl : x = s := by rw [List.getElem?_eq_getElem hkl, hxk] at hsk; injection hsk
      refine ⟨trivial, ?_⟩
      refine ⟨_, hb1, ?_⟩
      refine kW_i64 (by omega) ?_
      refine ⟨?_, ?_, trivial⟩
      · obtain ⟨A1, hA1, k1⟩ := St.callH H5
        refine (access_Begin_ct (a := ⟨P, T, B, l⟩) (id := x) (tick := 0) (hA1.mono fun _ h => h.1) hld (by show l.length ≤ 800000; omega)).mono ?_
        rintro _ w9 ⟨q', d', rfl, hd', K⟩; have H9 := k1 K
        have B9 : KeepsB (fun _ => True) w5 w9 := fun p _ _ hc => K.below.get hc
        refine ⟨_, _, _, _, _, _, _, rfl, B9, ?_⟩
        refine H9.allocB ?_; intro b3 w10 hb10 H10
        refine ⟨fun p u h hc => hb10.get (B9 p u h hc), ?_⟩
        refine H10.store (i := 2) rfl (by rfl) (by rfl) ?_; clear H10; intro w11 H11
        exact ⟨b3, q', d', rfl, rfl, hd', H11.imp fun _ h => ⟨h.1, h.2.2⟩⟩
      · refine H5.allocB ?_; intro b2 w6 hb6 H6
        have B6 : KeepsB (fun _ => True) w5 w6 := fun p _ _ hc => hb6.get hc
        refine ⟨B6, ?_⟩
        obtain ⟨A1, hA1, k1⟩ := St.callH H6
        refine (access_Begin_ct (a := ⟨P, T, B, l⟩) (id := x) (tick := 0) (hA1.mono fun _ h => h.1) hld (by show l.length ≤ 800000; omega)).mono ?_
        rintro _ w7 ⟨q', d', rfl, hd', K⟩; have H7 := k1 K
        refine ⟨_, _, _, _, _, _, _, rfl, fun p u h hc => K.below.get (B6 p u h hc), ?_⟩
        refine H7.store (i := 2) rfl (by rfl) (by rfl) ?_; clear H7; intro w8 H8
        exact ⟨b2, q', d', rfl, rfl, hd', H8.imp fun _ h => ⟨h.1, h.2.2⟩⟩
  · -- the ticks
    obtain rfl : k = n := by omega
    generalize hkn : xs.take k = kn at *
    refine ⟨fun t => ((30 * T - t).toNat, fun w15 => ∃ (t' : Nat) (l : List At) (es : List (Int × Int)) (q : Option Addr) (d : Nat), t = t' ∧ (t' : Int) ≤ 30 * T ∧ Val ⟨P, T, B, l⟩ ∧ l.length ≤ d ∧ (∀ x ∈ l, (t' : Int) ≤ x.at_ ∧ x.at_ ≤ 20 * x.tries) ∧
      (∀ z, 0 < (ids l).count z → z ∈ kn) ∧ Ended kn es (fun z => 1 - (ids l).count z) ∧
      St (All w) [] w w15 [acBlk b ⟨P, T, B, l⟩ q d, .map m es] (fun w => SlR (CE encAt) 4 w q l ∧ SlR (IntC .u8) 1 w p xs)),
      ⟨0, l, es, q, d, rfl, by omega, hV, hld, hat, fun z hz => ?_, fun z => ?_, H4⟩, ?_⟩
    · rw [hcn] at hz
      split at hz
      · assumption
      · omega
    · rw [hen]
      by_cases hz : z ∈ kn
      · rw [if_pos hz, if_pos hz]; dsimp only; rw [hcn, if_pos hz]
      · rw [if_neg hz, if_neg hz]
    clear H4 hV hlk hld hat hcn hen l es q d
    rintro _ _ w15 ⟨t, l, es, q, d, rfl, ht, hV, hld, hat, hkz, hen, H15⟩
    have hl16 : l.length ≤ 16 := hV.len
    refine H15.ld (i := 0) rfl rfl ?_
    refine kW_i64 (by show _ ≤ (30 : Int) * T ∧ (30 : Int) * T ≤ _; omega) ?_
    refine bsplit_dec (fun c2 => ?_) (fun c2 => ?_)
    · replace c2 : (t : Int) < 30 * T := c2
      obtain ⟨l', g, dd, htk, hV', hat', hcnt, hsum, hone⟩ := tick_once hV (t := (t : Int)) (by show B ≤ 19; omega) (by omega) hat
      refine ⟨fun due i1 => ((l.length - i1).toNat, fun w16 => ∃ j : Nat, i1 = j ∧ j ≤ l.length ∧ due = ((l.take j).countP (fun x => decide (x.at_ ≤ (t : Int))) : Nat) ∧
        St (All w) [] w w16 [acBlk b ⟨P, T, B, l⟩ q d, .map m es] (fun w => SlR (CE encAt) 4 w q l ∧ SlR (IntC .u8) 1 w p xs)), ⟨0, rfl, by omega, by simp, H15⟩, ?_⟩
      clear H15
      rintro _ _ _ w16 ⟨j, rfl, hj, rfl, H16⟩
      have hcl : (l.take j).countP (fun x => decide (x.at_ ≤ (t : Int))) ≤ j := Nat.le_trans List.countP_le_length (by rw [List.length_take]; omega)
      refine H16.ldS (i := 0) rfl rfl ?_
      refine bsplit_dec (fun c3 => ?_) (fun c3 => ?_)
      · replace c3 : (j : Int) < (l.length : Int) := c3
        have hlt : j < l.length := by omega
        have htk1 : (l.take (j + 1)).countP (fun x => decide (x.at_ ≤ (t : Int))) = (l.take j).countP (fun x => decide (x.at_ ≤ (t : Int))) + if l[j].at_ ≤ t then 1 else 0 := by
          rw [List.take_add_one, List.getElem?_eq_getElem hlt, List.countP_append]
          simp [List.countP_cons]
        refine H16.ldS (i := 0) rfl rfl ?_
        refine ixE H16.get.1 j rfl hlt fun b6 s hsk hb6 => ?_
        obtain rfl : l[j] = s := by rw [List.getElem?_eq_getElem hlt] at hsk; injection hsk
        refine ld_el (j := 2) hb6 rfl ?_
        refine bsplit_dec (fun c4 => ?_) (fun c4 => ?_)
        · refine kW_i64 (by omega) ?_
          refine kW_i64 (by omega) ?_
          exact ⟨⟨j + 1, by omega, by omega, by rw [htk1, if_pos c4]; omega, H16⟩, by dsimp only; omega⟩
        · refine kW_i64 (by omega) ?_
          exact ⟨⟨j + 1, by omega, by omega, by rw [htk1, if_neg c4]; omega, H16⟩, by dsimp only; omega⟩
      · replace c3 : ¬ (j : Int) < (l.length : Int) := c3
        obtain rfl : j = l.length := by omega
        rw [List.take_length] at hcl ⊢
        refine ⟨_, _, _, _, _, _, H16.cells (i := 0) rfl, ?_⟩
        obtain ⟨A1, hA1, k1⟩ := St.callH H16
        have hct := access_Tick_ct (a := ⟨P, T, B, l⟩) (tick := (t : Int)) (hA1.mono fun _ h => h.1) hld (by show l.length ≤ 800000; omega)
        rw [htk] at hct
        refine hct.mono ?_
        rintro _ w17 ⟨q', d', ga, gc, da, dc, rfl, hd', K⟩; have H17 := k1 K; clear H16 k1 K hA1 hct
        refine ⟨_, _, _, _, _, _, _, _, _, _, _, _, _, rfl, ?_⟩
        refine H17.alloc ?_; clear H17; intro b7 w18 H18
        refine H18.store (i := 2) rfl (by rfl) (by rfl) ?_; clear H18; intro w19 H19
        replace H19 : St (All w) [] w w19 [acBlk b ⟨P, T, B, l⟩ q d, .map m es, acBlk b7 ⟨P, T, B, l'⟩ q' d'] (fun w => SlR (CE encAt) 4 w q' l' ∧ (SlR (IntC .i64) 1 w ga g ∧ SlR (IntC .i64) 1 w da dd) ∧ SlR (IntC .u8) 1 w p xs) := H19.imp fun _ h => ⟨h.1.1, h.1.2, h.2.2⟩
        have hgd : g.length + dd.length ≤ 16 := by
          have : l.countP (fun x => decide (x.at_ ≤ (t : Int))) ≤ l.length := List.countP_le_length
          have h1 : g.length + dd.length ≤ l.countP (fun x => decide (x.at_ ≤ (t : Int))) := hsum
          omega
        have hone' : l.countP (fun x => decide (x.at_ ≤ (t : Int))) = 1 → g.length = 1 := hone
        have hsum' : g.length + dd.length ≤ l.countP (fun x => decide (x.at_ ≤ (t : Int))) := hsum
        have hcnt' : ∀ z, (ids l').count z + g.count z + dd.count z = (ids l).count z := hcnt
        have hdif : ∀ z, (ids l).count z ≤ 1 := hV.dif
        refine ⟨fun w20 => St (All w) [] w w20 [acBlk b ⟨P, T, B, l⟩ q d, .map m es, acBlk b7 ⟨P, T, B, l'⟩ q' d'] (fun w => SlR (CE encAt) 4 w q' l' ∧ (SlR (IntC .i64) 1 w ga g ∧ SlR (IntC .i64) 1 w da dd) ∧ SlR (IntC .u8) 1 w p xs), ?_, ?_⟩
        · clear H19
          rintro _ w20 H20
          refine ⟨fun i2 => ((g.length - i2).toNat, fun w21 => ∃ (j : Nat) (es' : List (Int × Int)), i2 = j ∧ j ≤ g.length ∧ Ended kn es' (fun z => 1 - (ids l).count z + (g.take j).count z) ∧
            St (All w) [] w w21 [acBlk b ⟨P, T, B, l⟩ q d, .map m es', acBlk b7 ⟨P, T, B, l'⟩ q' d'] (fun w => SlR (CE encAt) 4 w q' l' ∧ (SlR (IntC .i64) 1 w ga g ∧ SlR (IntC .i64) 1 w da dd) ∧ SlR (IntC .u8) 1 w p xs)), ⟨0, es, rfl, by omega, fun z => by rw [hen]; simp, H20⟩, ?_⟩
          clear H20
          rintro _ _ w21 ⟨j, es', rfl, hj, hen', H21⟩
          refine bsplit_dec (fun c5 => ?_) (fun c5 => ?_)
          · replace c5 : (j : Int) < (g.length : Int) := c5
            have hlt : j < g.length := by omega
            refine ixE H21.get.2.1.1 j rfl hlt fun b8 s hsk hb8 => ?_
            obtain rfl : g[j] = s := by rw [List.getElem?_eq_getElem hlt] at hsk; injection hsk
            refine ⟨_, hb8, ?_⟩
            have hgk : g[j] ∈ kn := hkz _ (by
              have h1 := hcnt' g[j]
              have h2 : 0 < g.count g[j] := List.count_pos_iff.2 (List.getElem_mem hlt)
              omega)
            refine H21.look (i := 1) rfl ?_
            have hlk : (lookI es' g[j]).getD 0 = ((1 - (ids l).count g[j] + (g.take j).count g[j] : Nat) : Int) := by rw [hen', if_pos hgk]; rfl
            have hle : (g.take j).count g[j] ≤ j := Nat.le_trans List.count_le_length (by rw [List.length_take]; omega)
            rw [hlk]
            refine kW_i64 (by omega) ?_
            refine H21.mapSet (i := 1) rfl ?_; clear H21; intro w22 H22
            refine kW_i64 (by omega) ?_
            refine ⟨⟨j + 1, _, by omega, by omega, ?_, H22⟩, by dsimp only; omega⟩
            have hu := hen'.upd hgk (v := ((1 - (ids l).count g[j] + (g.take j).count g[j] : Nat) : Int) + 1) rfl
            intro z
            rw [hu z]; dsimp only; rw [count_take1 hlt, Nat.add_assoc]
          · replace c5 : ¬ (j : Int) < (g.length : Int) := c5
            obtain rfl : j = g.length := by omega
            rw [List.take_length] at hen'
            refine ⟨fun i3 => ((dd.length - i3).toNat, fun w23 => ∃ (j : Nat) (es' : List (Int × Int)), i3 = j ∧ j ≤ dd.length ∧ Ended kn es' (fun z => 1 - (ids l).count z + g.count z + (dd.take j).count z) ∧
              St (All w) [] w w23 [acBlk b ⟨P, T, B, l⟩ q d, .map m es', acBlk b7 ⟨P, T, B, l'⟩ q' d'] (fun w => SlR (CE encAt) 4 w q' l' ∧ (SlR (IntC .i64) 1 w ga g ∧ SlR (IntC .i64) 1 w da dd) ∧ SlR (IntC .u8) 1 w p xs)), ⟨0, es', rfl, by omega, fun z => by rw [hen']; simp, H21⟩, ?_⟩
            clear H21 hen' es'
            rintro _ _ w23 ⟨j, es', rfl, hj, hen', H23⟩
            refine bsplit_dec (fun c6 => ?_) (fun c6 => ?_)
            · replace c6 : (j : Int) < (dd.length : Int) := c6
              have hlt : j < dd.length := by omega
              refine ixE H23.get.2.1.2 j rfl hlt fun b9 s hsk hb9 => ?_
              obtain rfl : dd[j] = s := by rw [List.getElem?_eq_getElem hlt] at hsk; injection hsk
              refine ⟨_, hb9, ?_⟩
              have hgk : dd[j] ∈ kn := hkz _ (by
                have h1 := hcnt' dd[j]
                have h2 : 0 < dd.count dd[j] := List.count_pos_iff.2 (List.getElem_mem hlt)
                omega)
              refine H23.look (i := 1) rfl ?_
              have hlk : (lookI es' dd[j]).getD 0 = ((1 - (ids l).count dd[j] + g.count dd[j] + (dd.take j).count dd[j] : Nat) : Int) := by rw [hen', if_pos hgk]; rfl
              have hle : (dd.take j).count dd[j] ≤ j := Nat.le_trans List.count_le_length (by rw [List.length_take]; omega)
              have hle2 : g.count dd[j] ≤ g.length := List.count_le_length
              rw [hlk]
              refine kW_i64 (by omega) ?_
              refine H23.mapSet (i := 1) rfl ?_; clear H23; intro w24 H24
              refine kW_i64 (by omega) ?_
              refine ⟨⟨j + 1, _, by omega, by omega, ?_, H24⟩, by dsimp only; omega⟩
              have hu := hen'.upd hgk (v := ((1 - (ids l).count dd[j] + g.count dd[j] + (dd.take j).count dd[j] : Nat) : Int) + 1) rfl
              intro z
              rw [hu z]; dsimp only; rw [count_take1 hlt, Nat.add_assoc]
            · replace c6 : ¬ (j : Int) < (dd.length : Int) := c6
              obtain rfl : j = dd.length := by omega
              rw [List.take_length] at hen'
              refine ⟨_, _, _, _, _, _, H23.cells (i := 2) rfl, ?_⟩
              refine H23.store (i := 0) rfl (by rfl) (by rfl) ?_; clear H23; intro w25 H25
              refine kW_i64 (by omega) ?_
              refine ⟨⟨t + 1, l', es', q', d', by omega, by omega, hV', hd', hat', fun z hz => hkz z (by have := hcnt' z; omega), fun z => ?_, (H25.imp fun _ h => ⟨h.1, h.2.2⟩).dropLast (R := [_, _])⟩, by dsimp only; omega⟩
              rw [hen']; dsimp only
              have h1 := hcnt' z
              have h2 := hdif z
              rw [show 1 - (ids l).count z + g.count z + dd.count z = 1 - (ids l').count z by omega]
        · refine bsplit_nd (fun c => absurd rfl c) (fun _ => ?_)
          refine bsplit_dec (fun c7 => ?_) (fun _ => ?_)
          · refine bsplit_nd (fun c => absurd (by have := hone' (by omega); show ((g.length : Nat) : Int) = 1; omega) c) (fun _ => ?_)
            refine kW_i64 (by show _ ≤ ((g.length : Nat) : Int) + ((dd.length : Nat) : Int) ∧ ((g.length : Nat) : Int) + ((dd.length : Nat) : Int) ≤ _; omega) ?_
            refine bsplit_dec (fun c => False.elim (by have c' : ((g.length : Nat) : Int) + ((dd.length : Nat) : Int) > ((l.countP (fun x => decide (x.at_ ≤ (t : Int))) : Nat) : Int) := c; omega)) (fun _ => ?_)
            exact H19
          · refine kW_i64 (by show _ ≤ ((g.length : Nat) : Int) + ((dd.length : Nat) : Int) ∧ ((g.length : Nat) : Int) + ((dd.length : Nat) : Int) ≤ _; omega) ?_
            refine bsplit_dec (fun c => False.elim (by have c' : ((g.length : Nat) : Int) + ((dd.length : Nat) : Int) > ((l.countP (fun x => decide (x.at_ ≤ (t : Int))) : Nat) : Int) := c; omega)) (fun _ => ?_)
            exact H19
    · -- the end
      replace c2 : ¬ (t : Int) < 30 * T := c2
      obtain rfl : l = [] := by
        cases l with
        | nil => rfl
        | cons x l =>
          have h1 := hat x (by simp)
          obtain ⟨_, _, _, f4, _⟩ := hV.fld x (by simp)
          have f4' : x.tries < T := f4
          omega
      refine ⟨fun i4 => ((k - i4).toNat, fun w26 => ∃ j : Nat, i4 = j ∧ j ≤ k ∧ St (All w) [] w w26 [acBlk b ⟨P, T, B, []⟩ q d, .map m es] (fun w => SlR (CE encAt) 4 w q [] ∧ SlR (IntC .u8) 1 w p xs)), ⟨0, rfl, by omega, H15⟩, ?_⟩
      clear H15
      rintro _ _ w26 ⟨j, rfl, hj, H26⟩
      refine bsplit_dec (fun c3 => ?_) (fun c3 => ?_)
      · have hlt : j < xs.length := by omega
        have hx := hxb j hlt
        refine ixE H26.get.2 j rfl hlt fun b10 s hsk hb10 => ?_
        obtain rfl : xs[j] = s := by rw [List.getElem?_eq_getElem hlt] at hsk; injection hsk
        refine ⟨_, hb10, ?_⟩
        refine kW_i64 (by omega) ?_
        refine H26.look (i := 1) rfl ?_
        have hmem : xs[j] ∈ kn := by rw [← hkn]; exact List.mem_take_iff_getElem.2 ⟨j, by omega, rfl⟩
        have hlk : (lookI es xs[j]).getD 0 = 1 := by rw [hen, if_pos hmem]; rfl
        rw [hlk]
        refine bsplit_nd (fun c => absurd rfl c) (fun _ => ?_)
        refine kW_i64 (by omega) ?_
        exact ⟨⟨j + 1, by omega, by omega, H26⟩, by dsimp only; omega⟩
      · refine H26.ldS (i := 0) rfl rfl ?_
        refine bsplit_dec (fun _ => ?_) (fun c => absurd rfl c)
        refine law38_awake_ct.mono ?_
        rintro _ w27 ⟨rfl, hb27⟩; have H27 := H26.pass hb27
        exact ⟨_, rfl, rfl, H27.below⟩
end
end Go.Proofs.Ytgmniohbnophdaa
