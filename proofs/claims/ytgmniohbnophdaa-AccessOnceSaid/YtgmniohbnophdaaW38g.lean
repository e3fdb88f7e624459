import Derived.Test.YtgmniohbnophdaaW38f
/- CHAPTER 38: Delete, Stop (both). -/
set_option maxRecDepth 100000
namespace Go.Proofs.Ytgmniohbnophdaa
open Go.Sx Go.RowKit Go.P38
section
variable {A0 : Nat → Prop} {M : List Nat} {w0 w : World} {R : List Res} {P : World → Prop}
/-- the k-th attempt is taken out of the call's own row -/
theorem delete_ct (H : St A0 M w0 w R P) {i : Nat} {a : Option Addr} {c k : Nat} {l : List At} (hi : R[i]? = some (.els encAt Ty_api_Attempt 4 a c l)) (hk : k < l.length) (hl : l.length ≤ 1000000)
    {F : Ending → World → Prop} (h : ∀ w', St A0 M w0 w' (R.set i (.els encAt Ty_api_Attempt 4 a c (l.take k ++ l.drop (k + 1)))) P → F (.returned (.slice a (l.take k ++ l.drop (k + 1)).length c)) w') :
    Calls Try.prog N_slices_Delete_Sapi_Attempt_api_Attempt #[.slice a l.length c, .int .i64 k, .int .i64 (k + 1 : Int)] w F := by
  obtain ⟨g, rfl, hat, hnc⟩ := H.rowSome hi (by omega)
  have hE := encAt_ok
  have hdl : (l.drop (k + 1)).length = l.length - (k + 1) := List.length_drop
  have htl : (l.take k).length = k := by rw [List.length_take]; omega
  have hsp : l.flatMap encAt = (l.take (k + 1)).flatMap encAt ++ (l.drop (k + 1)).flatMap encAt := by rw [← List.flatMap_append, List.take_append_drop]
  have hl1 : ((l.take (k + 1)).flatMap encAt).length = (k + 1) * 4 := by rw [flat_len encAt_ok, List.length_take, Nat.min_eq_left (by omega)]
  have hrl : (l.take k ++ l.drop (k + 1)).length = l.length - 1 := by rw [List.length_append, htl, hdl]; omega
  apply F_slices_Delete_Sapi_Attempt_api_Attempt_ok
  unfold F_slices_Delete_Sapi_Attempt_api_Attempt
  have ek : ((k : Int) + 1).toNat = k + 1 := by omega
  refine ⟨⟨by omega, by omega⟩, ⟨by omega, by omega⟩, ⟨by omega, by omega⟩, ?_⟩
  refine bsplit_dec (fun c1 => by omega) (fun _ => ?_)
  refine H.drew ?_; intro w1 H1
  refine ⟨fun _ => False, ?_⟩
  refine ⟨⟨by omega, by omega⟩, ⟨by omega, by omega⟩, ?_⟩
  rw [slA0, ek, Int.toNat_natCast, Nat.sub_zero, Nat.sub_zero]
  -- the rest of the row, read where it lies
  have H2 := H1.shrink hi k (by omega)
  have e1 : (l.flatMap encAt).take (k * 4) = (l.take k).flatMap encAt := by
    have : l.flatMap encAt = (l.take k).flatMap encAt ++ (l.drop k).flatMap encAt := by rw [← List.flatMap_append, List.take_append_drop]
    rw [this]
    have h2 : ((l.take k).flatMap encAt).length = k * 4 := by rw [flat_len encAt_ok, htl]
    rw [← h2]; exact List.take_left
  rw [e1] at H2
  have hil : i < R.length := get_lt hi
  have ii : ∀ {r : Res}, (R.set i r)[i]? = some r := by intro r; rw [List.getElem?_set_self hil]
  have st : ∀ {r s : Res}, (R.set i r).set i s = R.set i s := by intro r s; simp
  obtain ⟨q, hq, hcells⟩ : ∃ q, slAddr c (k + 1) 4 (some ⟨g, 0, none⟩) = some q ∧ ∀ j u, ((l.drop (k + 1)).flatMap encAt)[j]? = some u → w1.cell? (q.add j) = some u := by
    by_cases hck : c = k + 1
    · refine ⟨⟨g, 0, none⟩, by unfold slAddr; rw [if_pos hck], fun j u hu => ?_⟩
      rw [List.drop_eq_nil_of_le (by omega)] at hu
      simp at hu
    · refine ⟨⟨g, (k + 1) * 4, none⟩, slA hck, fun j u hu => ?_⟩
      rw [add_mk]
      exact H1.cellRow hi (by rw [hsp, ← hl1]; exact cat _ _ j u hu)
  rw [hq]
  refine H2.appRoom ii sl_Ty_S_api_Attempt (news := (l.drop (k + 1)).flatMap encAt) (by rw [flat_len encAt_ok, hdl]) hcells (flat_one encAt_ok) (by omega) (by omega) (by omega) ?_
  intro w2 H3
  rw [st] at H3
  refine ⟨fun _ _ h => h.elim, ⟨by omega, by omega⟩, ⟨by omega, by omega⟩, ?_⟩
  have en : k + (l.length - (k + 1)) = l.length - 1 := by omega
  simp only [en, Int.toNat_natCast]
  rw [en] at H3
  rw [slA (by omega)]
  -- what is behind is cleared
  obtain ⟨rest, hr1, hcm, _, H4⟩ := H3.rowBlk ii
  rw [st] at H4
  have hxl : ((l.take k).flatMap encAt ++ (l.drop (k + 1)).flatMap encAt).length = (l.length - 1) * 4 := by
    rw [List.length_append, flat_len encAt_ok, flat_len encAt_ok, htl, hdl]; omega
  obtain ⟨Y, Z1, Z2, hYZ, hY, hZ1⟩ := splits (W := rest) (n := 4) (m := 0) (by rw [hxl] at hr1; omega)
  obtain rfl : Z1 = [] := List.eq_nil_of_length_eq_zero hZ1
  rw [List.append_nil] at hYZ
  refine H4.clearB (T := Ty_api_Attempt) (g := g) ((l.take k).flatMap encAt ++ (l.drop (k + 1)).flatMap encAt) Y Z2 (by rw [ii, hYZ]; simp) sl_Ty_S_api_Attempt rfl hxl (by omega) (by rw [hY]; omega) ?_
  intro w3 Y' hY' H5
  rw [st] at H5
  have hZl : Y.length + Z2.length = rest.length := by rw [hYZ, List.length_append]
  have H6 := H5.blkRow ii 4 (l.length - 1) c (by simp only [List.length_append] at hxl hr1 ⊢; omega) (by omega) hcm
  rw [st] at H6
  have e2 : (((l.take k).flatMap encAt ++ (l.drop (k + 1)).flatMap encAt ++ Y' ++ Z2).take ((l.length - 1) * 4)) = (l.take k ++ l.drop (k + 1)).flatMap encAt := by
    rw [List.append_assoc, ← hxl, List.flatMap_append]; exact List.take_left
  rw [e2] at H6
  have := h w3 (by rw [Res.els, hrl]; exact H6)
  rw [hrl] at this
  exact this
end
section
variable {A : Nat → Prop} {w : World} {p : Option Addr} {c : Nat} {a : Ac} {id tick : Int} {x : At}
theorem access_Stop_ct (hA : Held A w fun w => SlR (CE encAt) 4 w p a.l) (hcap : a.l.length ≤ c) (hl : a.l.length ≤ 800000) :
    Calls Try.prog N_access_Stop #[aggAc a p c, .int .i64 id] w (RetH A w (fun v => .tuple #[v, .bool (stopR a id).2]) (stopR a id).1) := by
  apply F_access_Stop_ok
  unfold F_access_Stop
  have H := St.start hA
  refine H.alloc ?_; clear H; intro b w1 H1
  refine H1.alloc ?_; clear H1; intro b1 w2 H2
  replace H2 : St A [] w w2 [acBlk b a p c, zeroAc b1] (fun w => SlR (CE encAt) 4 w p a.l) := H2
  refine ⟨_, _, _, _, _, _, H2.cells (i := 0) rfl, ?_⟩
  refine (clone_ac H2.get (by omega)).mono ?_
  rintro _ w3 ⟨q, d, rfl, K⟩; have H3 := H2.callR K; clear H2
  refine ⟨_, _, _, _, _, _, rfl, ?_⟩
  refine H3.alloc ?_; clear H3; intro b2 w4 H4
  refine H4.store (i := 3) rfl (by rfl) (by rfl) ?_; clear H4; intro w5 H5
  refine H5.ldS (i := 0) rfl rfl ?_
  refine (access_find_ct H5.get (by omega)).mono ?_
  rintro _ w6 ⟨rfl, hb6⟩; have H6 := H5.pass hb6; clear H5
  refine ⟨_, rfl, ?_⟩
  refine ⟨_, _, _, _, _, _, H6.cells (i := 0) rfl, ?_⟩
  refine (access_Check_ct H6.get hcap (by omega)).mono ?_
  rintro _ w7 ⟨rfl, hb7⟩; have H7 := H6.pass hb7; clear H6
  refine ⟨_, rfl, ?_⟩
  replace H7 : St A [] w w7 [acBlk b a p c, zeroAc b1, .els encAt Ty_api_Attempt 4 q d a.l, .blk b2 Ty_api_Access (encAc a q d)] (fun w => SlR (CE encAt) 4 w p a.l) := H7
  refine bsplit_nd (fun c1 => ?_) (fun c1 => ?_) --  (!decide (r1 = (0 : Int)))
  · have e : stopR a id = (a, false) := if_pos c1
    rw [e]
    refine ⟨_, _, _, _, _, _, H7.cells (i := 3) rfl, ?_⟩
    refine H7.store (i := 1) rfl (by rfl) (by rfl) ?_; clear H7; intro w8 H8
    refine ⟨_, _, _, _, _, _, H8.cells (i := 1) rfl, ?_⟩
    exact retH (H8.capE (i := 2) rfl) (H8.shareE encAt_ok (i := 2) rfl) fun _ h => h.1
  · have e : stopR a id = if hasR a.l id then ({ a with l := a.l.filter fun x => !decide (x.id = id) }, true) else (a, false) := if_neg (by simpa using c1)
    rw [e]
    obtain ⟨_, h16, hgood⟩ := checkR_ok c1
    have hih := idx_has (l := a.l) (id := id)
    refine bsplit_dec (fun c => ?_) (fun c => ?_) --  (decide (r < (0 : Int)))
    · rw [if_neg (by rw [← hih]; simp; omega)]
      refine ⟨_, _, _, _, _, _, H7.cells (i := 3) rfl, ?_⟩
      refine H7.store (i := 1) rfl (by rfl) (by rfl) ?_; clear H7; intro w9 H9
      refine ⟨_, _, _, _, _, _, H9.cells (i := 1) rfl, ?_⟩
      exact retH (H9.capE (i := 2) rfl) (H9.shareE encAt_ok (i := 2) rfl) fun _ h => h.1
    · have hh : hasR a.l id = true := by rw [← hih]; simp; omega
      rw [if_pos hh]
      obtain ⟨y, hy, hyid⟩ := hasR_iff.1 hh
      obtain ⟨k, hk, rfl⟩ := List.getElem_of_mem hy
      have hdif : ∀ j (hj : j < a.l.length), j ≠ k → a.l[j].id ≠ id := fun j hj hjk he => by
        rcases Nat.lt_or_ge j k with h | h
        · exact hgood.dif j k hj hk h (he.trans hyid.symm)
        · exact hgood.dif k j hk hj (by omega) (hyid.trans he.symm)
      have hidx : idx (fun x : At => decide (x.id = id)) a.l = k := idx_at hk (fun j hj hjk => by simpa using hdif j hj (by omega)) (by simpa using hyid)
      rw [hidx]
      refine H7.ldS (i := 3) rfl rfl ?_
      refine kW_i64 (by omega) ?_ -- r + (1 : Int)
      refine delete_ct H7 (i := 2) rfl hk (by omega) ?_
      intro w10 H10
      refine ⟨_, _, _, rfl, ?_⟩
      rw [filter_at hk hyid hdif]
      refine H10.set (i := 3) rfl (by simp) ?_; clear H10; intro w11 H11
      refine ⟨_, _, _, _, _, _, H11.cells (i := 3) rfl, ?_⟩
      refine H11.store (i := 1) rfl (by rfl) (by rfl) ?_; clear H11; intro w12 H12
      refine ⟨_, _, _, _, _, _, H12.cells (i := 1) rfl, ?_⟩
      exact retH (a := { a with l := a.l.take k ++ a.l.drop (k + 1) }) (H12.capE (i := 2) rfl) (H12.shareE encAt_ok (i := 2) rfl) fun _ h => h.1
theorem ref38_Stop_ct (hA : Held A w fun w => SlR (CE encAt) 4 w p a.l) (hcap : a.l.length ≤ c) (hl : a.l.length ≤ 800000) :
    Calls Try.prog N_ref38_Stop #[aggAc a p c, .int .i64 id] w (RetH A w (fun v => .tuple #[v, .bool (stopR a id).2]) (stopR a id).1) := by
  apply F_ref38_Stop_ok
  unfold F_ref38_Stop
  have H := St.start hA
  refine H.alloc ?_; clear H; intro b w1 H1
  refine H1.alloc ?_; clear H1; intro b1 w2 H2
  replace H2 : St A [] w w2 [acBlk b a p c, zeroAc b1] (fun w => SlR (CE encAt) 4 w p a.l) := H2
  refine ⟨fun w7 => St A [] w w7 [acBlk b a p c, zeroAc b1] (fun w => SlR (CE encAt) 4 w p a.l) ∧ checkR a = 0 ∧ hasR a.l id = true, ?_, ?_⟩
  · rintro _ w7 ⟨H7, hc0, hh⟩
    have e : stopR a id = ({ a with l := a.l.filter fun x => !decide (x.id = id) }, true) := by rw [stopR, if_neg (by simpa using hc0), if_pos hh]
    rw [e]
    have H7 := H7.nilE encAt Ty_api_Attempt 4
    refine ⟨fun sa sl sc i => ((a.l.length - i).toNat, fun w8 => ∃ k : Nat, i = k ∧ k ≤ a.l.length ∧ sl = ((a.l.take k).filter fun x => !decide (x.id = id)).length ∧ St A [] w w8 [acBlk b a p c, zeroAc b1, .els encAt Ty_api_Attempt 4 sa sc ((a.l.take k).filter fun x => !decide (x.id = id))] (fun w => SlR (CE encAt) 4 w p a.l)), ⟨0, rfl, by omega, rfl, H7⟩, ?_⟩
    clear H7
    rintro _ sa sl sc i w8 ⟨k, rfl, hk, rfl, H8⟩
    refine H8.ldS (i := 0) rfl rfl ?_
    have hfl : ((a.l.take k).filter fun x => !decide (x.id = id)).length ≤ k := Nat.le_trans (List.length_filter_le _ _) (by rw [List.length_take]; omega)
    refine bsplit_dec (fun c3 => ?_) (fun c3 => ?_) --  (decide (i < (a_3_l : Int)))
    · have hlt : k < a.l.length := by omega
      have htk : a.l.take (k + 1) = a.l.take k ++ [a.l[k]] := by rw [List.take_add_one, List.getElem?_eq_getElem hlt]; rfl
      refine H8.ldS (i := 0) rfl rfl ?_
      refine ixE H8.get k rfl hlt fun b2 s hsk hb2 => ?_
      obtain rfl : a.l[k] = s := by rw [List.getElem?_eq_getElem hlt] at hsk; injection hsk
      refine ⟨_, by have := cellsAt_get hb2 0 _ rfl; rwa [Nat.zero_add, add_zero] at this, ?_⟩
      refine bsplit_nd (fun c2 => ?_) (fun c2 => ?_) --  (!decide (x = identity))
      · refine H8.ldS (i := 0) rfl rfl ?_
        refine ixE H8.get k rfl hlt fun b3 s hsk3 hb3 => ?_
        obtain rfl : a.l[k] = s := by rw [List.getElem?_eq_getElem hlt] at hsk3; injection hsk3
        refine ⟨_, _, _, _, hb3, ?_⟩
        refine H8.alloc ?_; clear H8; intro b4 w9 H9
        refine H9.appEB encAt_ok (i := 2) (j := 3) rfl [a.l[k]] rfl sl_Ty_S_api_Attempt rfl (by simp; omega) (by simp; omega) ?_; intro x_a4 x_c4 w10 H10
        refine kW_i64 (by omega) ?_ -- i + (1 : Int)
        have ef : (a.l.take (k + 1)).filter (fun x => !decide (x.id = id)) = (a.l.take k).filter (fun x => !decide (x.id = id)) ++ [a.l[k]] := by
          rw [htk, List.filter_append]; simp [c2]
        refine ⟨⟨k + 1, by omega, by omega, by rw [ef], ?_⟩, by dsimp only; omega⟩
        rw [ef]
        exact H10.dropLast (R := [_, _, _])
      · refine kW_i64 (by omega) ?_ -- i + (1 : Int)
        have ef : (a.l.take (k + 1)).filter (fun x => !decide (x.id = id)) = (a.l.take k).filter (fun x => !decide (x.id = id)) := by
          rw [htk, List.filter_append]; simp [c2]
        exact ⟨⟨k + 1, by omega, by omega, by rw [ef], by rw [ef]; exact H8⟩, by dsimp only; omega⟩
    · obtain rfl : k = a.l.length := by omega
      rw [List.take_length] at H8 ⊢
      refine H8.set (i := 0) rfl (by simp) ?_; clear H8; intro w11 H11
      refine ⟨_, _, _, _, _, _, H11.cells (i := 0) rfl, ?_⟩
      refine H11.store (i := 1) rfl (by rfl) (by rfl) ?_; clear H11; intro w12 H12
      refine ⟨_, _, _, _, _, _, H12.cells (i := 1) rfl, ?_⟩
      exact retH (a := { a with l := a.l.filter fun x => !decide (x.id = id) }) (H12.capE (i := 2) rfl) (H12.shareE encAt_ok (i := 2) rfl) fun _ h => h.1
  · refine ⟨_, _, _, _, _, _, H2.cells (i := 0) rfl, ?_⟩
    refine (ref38_Check_ct H2.get hcap (by omega)).mono ?_
    rintro _ w3 ⟨rfl, hb3⟩; have H3 := H2.pass hb3; clear H2
    refine ⟨_, rfl, ?_⟩
    refine bsplit_nd (fun c1 => ?_) (fun c1 => ?_) --  (!decide (r = (0 : Int)))
    · have e : stopR a id = (a, false) := if_pos c1
      rw [e]
      refine ⟨_, _, _, _, _, _, H3.cells (i := 0) rfl, ?_⟩
      refine H3.store (i := 1) rfl (by rfl) (by rfl) ?_; clear H3; intro w4 H4
      refine ⟨_, _, _, _, _, _, H4.cells (i := 1) rfl, ?_⟩
      exact retH hcap H4 fun _ h => h
    · refine H3.ldS (i := 0) rfl rfl ?_
      refine (ref38_has_ct H3.get (by omega)).mono ?_
      rintro _ w5 ⟨rfl, hb5⟩; have H5 := H3.pass hb5; clear H3
      refine ⟨_, rfl, ?_⟩
      refine bsplit_n (fun c => ?_) (fun c => ?_) --  (!r1)
      · have e : stopR a id = (a, false) := by rw [stopR, if_neg (by simpa using c1), if_neg (by simp [c])]
        rw [e]
        refine ⟨_, _, _, _, _, _, H5.cells (i := 0) rfl, ?_⟩
        refine H5.store (i := 1) rfl (by rfl) (by rfl) ?_; clear H5; intro w6 H6
        refine ⟨_, _, _, _, _, _, H6.cells (i := 1) rfl, ?_⟩
        exact retH hcap H6 fun _ h => h
      · exact ⟨H5, c1, c⟩
end
end Go.Proofs.Ytgmniohbnophdaa
