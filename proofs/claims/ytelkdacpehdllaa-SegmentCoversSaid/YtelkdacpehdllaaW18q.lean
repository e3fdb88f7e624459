import Derived.Test.YtelkdacpehdllaaW18p
namespace Go.Proofs.Ytelkdacpehdllaa
open Go.Sx Go.RowKit

theorem keepsOwn {A0 : Nat → Prop} {w0 a c : World} {R R' : List Res} {P P' : World → Prop} (H : St A0 [] w0 a R P) (K : St A0 [] w0 c R' P') {i j b : Nat} {t : TypeId} {cs : List Value} (hi : R[i]? = some (.blk b t cs)) (hj : R'[j]? = some (.blk b t cs)) :
    KeepsB (fun x => x < w0.heap.size ∨ x = b) a c := fun p u hp hc => by
  rcases hp with hp | hp
  · exact keepsOld H.below K.below p u hp hc
  · have h1 : a.heap[b]? = some (.cells cs.toArray t (0, 0)) := H.ok i _ hi
    have h2 : c.heap[b]? = some (.cells cs.toArray t (0, 0)) := K.ok j _ hj
    subst hp
    exact (World.cell?_of_block (w := a) (h2.trans h1.symm)).trans hc
section
variable {l_a : Option Addr} {l : List Rg} {l_c : Nat} {w : World} {r : Rg}
theorem ref18_Union_ct (hs : SlR (CE encR) 3 w l_a l) (hl : l.length ≤ 900000) :
    Calls Try.prog N_ref18_Union #[(.slice l_a l.length l_c), (.agg #[.int .i64 r.sn, .int .i64 r.f, .int .i64 r.t])] w (RetG w (unionR l r).1 (unionR l r).2) := by
  apply F_ref18_Union_ok
  unfold F_ref18_Union
  have H := St.nil w
  have rd : ∀ (k : Nat) (hk : k < l.length) {F : Addr → Prop}, (∀ b, cellsAt w (b.add ((k : Int).toNat * 3)) 0 (encR l[k]) → F b) → kIx l_a l.length (k : Int) F := fun k hk F h => by
    refine ixE hs k rfl hk fun b s hsk hb => ?_
    obtain rfl : l[k] = s := by rw [List.getElem?_eq_getElem hk] at hsk; injection hsk
    exact h b hb
  have mv : ∀ {w2 : World} {p : Addr} {vs : List Value}, Below w.heap.size w w2 → cellsAt w p 0 vs → cellsAt w2 p 0 vs := fun hb h => cellsAt_keep (fun _ _ hp _ => hb.get hp) h
  refine H.alloc ?_; clear H; intro b w1 H1
  refine ⟨fun  w5 => St (fun _ => False) [] w w5 [.blk b Ty_api_Range (encR r)] (fun _ => True) ∧ normB (-1) l = true ∧ normB (-1) [r] = true, ?_, ?_⟩ --!
  · rintro _  w5 ⟨H5, hn, hr⟩
    have e0 : unionR l r = (unionS r.sn l r.f r.t, 0) := if_neg (by simp [hn, hr])
    rw [e0]
    have hrt : r.f < r.t := by simp [normB] at hr; exact hr.2
    have hna := norm_at hn
    refine ⟨fun oa ol oc i w12 => ∃ (k : Nat) (out : List Rg), k ≤ l.length ∧ i = k ∧ ol = out.length ∧ out.length ≤ k ∧ unionS r.sn l r.f r.t = out ++ unionS r.sn (l.drop k) r.f r.t ∧ (∀ hk : k < l.length, ¬ l[k].t < r.f) ∧ FreshR w w12 [.blk b Ty_api_Range (encR r), .els encR Ty_api_Range 3 oa oc out], ?_, ?_⟩ --!
    · rintro _ oa ol oc i w12 ⟨k, out, hk, rfl, rfl, hol, hI, hst, H12⟩
      refine ⟨_, _, _, H12.cells (i := 0) rfl, ?_⟩
      refine H12.alloc ?_; clear H12; intro b6 w13 H13
      refine H13.store (i := 2) rfl (by rfl) (by rfl) ?_; clear H13; intro w14 H14
      refine ⟨fun i w21 => ∃ (k : Nat) (f t : Int), k ≤ l.length ∧ i = k ∧ out.length ≤ k ∧ unionS r.sn l r.f r.t = out ++ ⟨r.sn, f, t⟩ :: (l.drop k).map (sn_ r.sn) ∧ FreshR w w21 [.blk b Ty_api_Range (encR r), .els encR Ty_api_Range 3 oa oc out, .blk b6 Ty_api_Range (encR ⟨r.sn, f, t⟩)], ?_, ?_⟩ --!
      · rintro _ i w21 ⟨k, f, t, hk, rfl, hol, hI, H21⟩
        refine ⟨_, _, _, H21.cells (i := 2) rfl, ?_⟩
        refine H21.alloc ?_; clear H21; intro b10 w22 H22
        refine H22.appEB encR_ok (i := 1) (j := 3) rfl [⟨r.sn, f, t⟩] rfl sl_Ty_S_api_Range rfl (by simp; omega) (by simp; omega) ?_; intro x_a1 x_c1 w23 H23
        refine ⟨fun oa ol oc i => ((l.length - i).toNat, fun w24 => ∃ (k : Nat) (out : List Rg), k ≤ l.length ∧ i = k ∧ ol = out.length ∧ out.length ≤ k + 1 ∧ unionS r.sn l r.f r.t = out ++ (l.drop k).map (sn_ r.sn) ∧ FreshR w w24 [.blk b Ty_api_Range (encR r), .els encR Ty_api_Range 3 oa oc out]), ⟨k, _, hk, rfl, rfl, by simp; omega, by rw [hI]; simp, H23.sub (fun i => i) ?_ (fun _ _ _ _ h => h)⟩, ?_⟩ --! I2
        · rintro (_ | _ | _) r h <;> first | exact h | cases h
        clear H23
        rintro _ oa ol oc i w24 ⟨k, out, hk, rfl, rfl, hol, hI, H24⟩
        refine bsplit_dec (fun c6 => ?_) (fun c6 => ?_) --  (decide (i4 < (l_l : Int)))
        · have hlt : k < l.length := by omega
          refine H24.drew ?_; clear H24; intro w25 H25
          refine ⟨(fun x => x < w.heap.size ∨ x = b), ?_⟩
          refine H25.ld (i := 0) rfl rfl ?_
          refine rd k hlt fun b11 hb => ?_
          refine ld_at (mv H25.below hb) 1 rfl ?_
          refine rd k hlt fun b11 hb => ?_
          refine ld_at (mv H25.below hb) 2 rfl ?_
          refine ⟨keepsOwn H25 H25 (i := 0) (j := 0) rfl rfl, ?_⟩ --!
          refine H25.alloc ?_; intro b13 w26 H26
          refine ⟨keepsOwn H25 H26 (i := 0) (j := 0) rfl rfl, ?_⟩
          refine H26.appEB encR_ok (i := 1) (j := 2) rfl [sn_ r.sn l[k]] rfl sl_Ty_S_api_Range rfl (by simp; omega) (by simp; omega) ?_; intro x_a2 x_c2 w27 H27
          refine ⟨keepsOwn H25 H27 (i := 0) (j := 0) rfl rfl, ?_⟩ --!
          refine kW_i64 (by omega) ?_ -- i4 + (1 : Int)
          refine ⟨⟨k + 1, _, by omega, by omega, rfl, by simp; omega, ?_, H27.sub (fun i => i) ?_ (fun _ _ _ _ h => h)⟩, by show Int.toNat _ < Int.toNat _; omega⟩ --! I x_a2 x_l2 x_c2 (i4 + (1 : Int))
          · rw [hI, show (l.drop k).map (sn_ r.sn) = sn_ r.sn l[k] :: (l.drop (k + 1)).map (sn_ r.sn) by rw [List.drop_eq_getElem_cons hlt]; rfl]; simp
          · rintro (_ | _ | _) r h <;> first | exact h | cases h
        · obtain rfl : k = l.length := by omega
          rw [hI, List.drop_length, List.map_nil, List.append_nil]
          exact .of H24 (i := 1) rfl 0 --! (.tuple #[(.slice out_a2 out_l2 out_c2), (.int .i64 (0 : Int))])
      · refine ⟨fun i => ((l.length - i).toNat, fun w15 => ∃ (k : Nat) (f t : Int), k ≤ l.length ∧ i = k ∧ out.length ≤ k ∧ f < t ∧ unionS r.sn l r.f r.t = out ++ unionS r.sn (l.drop k) f t ∧ (∀ hk : k < l.length, ¬ l[k].t < f) ∧ FreshR w w15 [.blk b Ty_api_Range (encR r), .els encR Ty_api_Range 3 oa oc out, .blk b6 Ty_api_Range (encR ⟨r.sn, f, t⟩)]), ⟨k, r.f, r.t, hk, rfl, hol, hrt, hI, hst, H14⟩, ?_⟩ --! I1
        clear H14 hst hI hol hk
        rintro _ i w15 ⟨k, f, t, hk, rfl, hol, hft, hI, hst, H15⟩
        refine ⟨fun w17 => ∃ hlt : k < l.length, l[k].f ≤ t ∧ FreshR w w17 [.blk b Ty_api_Range (encR r), .els encR Ty_api_Range 3 oa oc out, .blk b6 Ty_api_Range (encR ⟨r.sn, f, t⟩)], ?_, ?_⟩ --!
        · rintro _  w17 ⟨hlt, hft2, H17⟩
          refine H17.drew ?_; clear H17; intro w18 H18
          refine ⟨(· < w.heap.size), ?_⟩
          refine H18.ld (i := 2) rfl rfl ?_
          refine rd k hlt fun b8 hb => ld_at (mv H18.below hb) 1 rfl ?_
          refine H18.ld (i := 2) rfl rfl ?_
          refine rd k hlt fun b9 hb => ⟨cell_lt (cellsAt_get hb 2 _ rfl), ?_⟩
          refine ld_at (mv H18.below hb) 2 rfl ?_
          refine H18.set (i := 2) rfl (by simp [encR]) ?_; intro w19 H19
          refine ⟨keepsOld H18.below H19.below, ?_⟩
          refine H19.set (i := 2) rfl (by simp [encR]) ?_; intro w20 H20
          refine kW_i64 (by omega) ?_ -- i2 + (1 : Int)
          have hx := hna k hlt
          refine ⟨⟨k + 1, (if l[k].f < f then l[k].f else f), (if l[k].t > t then l[k].t else t), by omega, by omega, by omega, ?_, by rw [hI, union_take hlt (hst hlt) hft2], fun hk2 => ?_, H20⟩, by show Int.toNat _ < Int.toNat _; omega⟩ --! I (i2 + (1 : Int))
          · split <;> split <;> omega
          · have h1 := (hna (k + 1) hk2).1
            have h2 := hx.2 hk2
            split <;> omega
        · refine H15.drew ?_; clear H15; intro w16 H16
          refine bsplit_dec (fun c5 => ?_) (fun c5 => ?_) --  (decide (i2 < (l_l : Int)))
          · have hlt : k < l.length := by omega
            refine rd k hlt fun b7 hb => ld_at (mv H16.below hb) 1 rfl ?_
            refine H16.ld (i := 2) rfl rfl ?_
            refine bsplit_dec (fun c4 => ⟨hlt, c4, H16⟩) (fun c4 => ?_) --  (decide (x6 ≤ r_2))
            have c4' : ¬ l[k].f ≤ t := c4
            exact ⟨k, f, t, hk, rfl, hol, by rw [hI, union_stop fun _ => ⟨hst hlt, by omega⟩], H16⟩ --! J3 i2
          · exact ⟨k, f, t, hk, rfl, hol, by rw [hI, union_stop fun h => by omega], H16⟩ --! J3 i2
    · have H5 := H5.nilE encR Ty_api_Range 3
      refine ⟨fun oa ol oc i => ((l.length - i).toNat, fun w6 => ∃ (k : Nat) (out : List Rg), k ≤ l.length ∧ i = k ∧ ol = out.length ∧ out.length ≤ k ∧ unionS r.sn l r.f r.t = out ++ unionS r.sn (l.drop k) r.f r.t ∧ FreshR w w6 [.blk b Ty_api_Range (encR r), .els encR Ty_api_Range 3 oa oc out]), ⟨0, [], by omega, rfl, rfl, by simp, rfl, H5⟩, ?_⟩ --! I none 0 0 
      clear H5
      rintro _ oa ol oc i w6 ⟨k, out, hk, rfl, rfl, hol, hI, H6⟩
      refine ⟨fun w8 => ∃ hlt : k < l.length, l[k].t < r.f ∧ FreshR w w8 [.blk b Ty_api_Range (encR r), .els encR Ty_api_Range 3 oa oc out], ?_, ?_⟩ --!
      · rintro _  w8 ⟨hlt, hlf, H8⟩
        refine H8.drew ?_; clear H8; intro w9 H9
        refine ⟨(fun x => x < w.heap.size ∨ x = b), ?_⟩
        refine H9.ld (i := 0) rfl rfl ?_
        refine rd k hlt fun b11 hb => ?_
        refine ld_at (mv H9.below hb) 1 rfl ?_
        refine rd k hlt fun b11 hb => ?_
        refine ld_at (mv H9.below hb) 2 rfl ?_
        refine ⟨keepsOwn H9 H9 (i := 0) (j := 0) rfl rfl, ?_⟩ --!
        refine H9.alloc ?_; intro b13 w10 H10
        refine ⟨keepsOwn H9 H10 (i := 0) (j := 0) rfl rfl, ?_⟩
        refine H10.appEB encR_ok (i := 1) (j := 2) rfl [sn_ r.sn l[k]] rfl sl_Ty_S_api_Range rfl (by simp; omega) (by simp; omega) ?_; intro x_a2 x_c2 w11 H11
        refine ⟨keepsOwn H9 H11 (i := 0) (j := 0) rfl rfl, ?_⟩ --!
        refine kW_i64 (by omega) ?_ -- i + (1 : Int)
        refine ⟨⟨k + 1, _, by omega, by omega, rfl, by simp; omega, by rw [hI, union_skip hlt hlf]; simp, H11.sub (fun i => i) ?_ (fun _ _ _ _ h => h)⟩, by show Int.toNat _ < Int.toNat _; omega⟩ --! I x_a x_l x_c (i + (1 : Int))
        rintro (_ | _ | _) r h <;> first | exact h | cases h
      · refine H6.drew ?_; clear H6; intro w7 H7
        refine bsplit_dec (fun c3 => ?_) (fun c3 => ⟨k, out, hk, rfl, rfl, hol, hI, fun h => by omega, H7⟩) --  (decide (i < (l_l : Int)))
        have hlt : k < l.length := by omega
        refine rd k hlt fun b2 hb => ld_at (mv H7.below hb) 2 rfl ?_
        refine H7.ld (i := 0) rfl rfl ?_
        exact bsplit_dec (fun c2 => ⟨hlt, c2, H7⟩) (fun c2 => ⟨k, out, hk, rfl, rfl, hol, hI, fun h => c2, H7⟩) --  (decide (x < r_1))
  · refine (ref18_Normal_ct (hs.belowE H1.below) (by omega)).mono ?_ -- (.slice l_a l_l l_c)
    rintro _ w2 ⟨rfl, hb2⟩; have H2 := H1.pass hb2; clear H1
    refine ⟨_, rfl, ?_⟩
    refine bsplit_n (fun c1 => ?_) (fun c1 => ?_) --  (!r)
    · have e : unionR l r = ([], 4) := if_pos (.inl c1)
      rw [e]; exact .nil H2.fin.below _ --! (.tuple #[(.slice none 0 0), (.int .i64 (4 : Int))])
    · refine ⟨_, _, _, H2.cells (i := 0) rfl, ?_⟩
      refine H2.alloc ?_; clear H2; intro b1 w3 H3
      refine (ref18_Normal_ct (l := [r]) (H3.slBlk encR_ok (i := 1) _ rfl) (by simp)).mono ?_ -- (.slice (some ⟨b1, 0, none⟩) 1 1)
      rintro _ w4 ⟨rfl, hb4⟩; have H4 := H3.pass hb4; clear H3
      refine ⟨_, rfl, ?_⟩
      refine bsplit_n (fun c => ?_) (fun c => ?_) --  (!r1)
      · have e : unionR l r = ([], 4) := if_pos (.inr c)
        rw [e]; exact .nil H4.fin.below _ --! (.tuple #[(.slice none 0 0), (.int .i64 (4 : Int))])
      · refine ⟨H4.sub (fun i => i) ?_ (fun _ _ _ _ h => h), c1, c⟩ --! J 
        rintro (_ | _) r h <;> first | exact h | cases h
end
end Go.Proofs.Ytelkdacpehdllaa
