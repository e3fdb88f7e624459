import Derived.Test.YtjmjdjpbgjjhmaaW24b
namespace Go.Proofs.Ytjmjdjpbgjjhmaa
open Go.Sx Go.RowKit

/-- what a function returns that makes bytes, or an error -/
def RetB (w : World) (bs : List Int) (er : Int) : Ending → World → Prop := fun e w' => ∃ a c, bs.length ≤ c ∧ e = .returned (.tuple #[.slice a bs.length c, .int .i64 er]) ∧ Fresh w w' fun w => SlR (IntC .u8) 1 w a bs
theorem RetB.nil {w w' : World} (b : Below w.heap.size w w') (er : Int) : RetB w [] er (.returned (.tuple #[.slice none 0 0, .int .i64 er])) w' :=
  ⟨none, 0, Nat.le_refl _, rfl, ((St.nil w).pass b).imp fun _ _ => .nil⟩
theorem RetB.of {A0 : Nat → Prop} {w w' : World} {R : List Res} {P : World → Prop} (H : St A0 [] w w' R P) {i : Nat} {a : Option Addr} {c : Nat} {bs : List Int} (hi : R[i]? = some (.ints Ty_uint8 .u8 a c bs)) (er : Int) :
    RetB w bs er (.returned (.tuple #[.slice a bs.length c, .int .i64 er])) w' := ⟨a, c, H.capI hi, rfl, H.freshI hi⟩

section
variable {l_a : Option Addr} {l : List Sec} {l_c : Nat} {room : Int} {w : World}
theorem block_Encode_ct (hs : SecR w l_a l) (hl : Small l) :
    Calls Try.prog N_block_Encode #[(.slice l_a l.length l_c), (.int .i64 room)] w (RetB w (encS l room).1 (encS l room).2) := by
  apply F_block_Encode_ok
  unfold F_block_Encode
  have H := St.startA w
  refine (block_Check_ct hs hl).mono ?_ -- (.slice l_a l_l l_c), (.int .i64 room)
  rintro _ w1 ⟨rfl, hb1⟩; have H1 := H.pass hb1; clear H
  refine ⟨_, rfl, ?_⟩
  refine bsplit_nd (fun c3 => ?_) (fun c3 => ?_) --  (!decide (r = (0 : Int)))
  · have e : encS l room = ([], chkS l room) := if_pos c3
    rw [e]
    exact .nil H1.below _ --! (.tuple #[(.slice none 0 0), (.int .i64 r)])
  have e : encS l room = (bodyS l ++ padS (room.toNat - usedS l), 0) := if_neg (not_not_intro c3)
  rw [e]
  obtain ⟨hroom, hlen, hf, hu⟩ := chk_ok c3
  have hall := firstE_all hf
  have H1 := H1.nilI Ty_uint8 .u8
  refine ⟨fun out_a out_l out_c x => ((l.length - x).toNat, fun w2 => ∃ k : Nat, k ≤ l.length ∧ x = k ∧ out_l = (bodyS (l.take k)).length ∧ St (All w) [] w w2 [.ints Ty_uint8 .u8 out_a out_c (bodyS (l.take k))] (fun _ => True)), ⟨0, by omega, rfl, rfl, H1⟩, ?_⟩ --! I none 0 0 (0 : Int)
  clear H1
  rintro _ out_a out_l out_c x w2 ⟨k, hk, rfl, rfl, H2⟩
  have hle : usedS (l.take k) ≤ usedS l := by
    have := usedS_append (l.take k) (l.drop k); rw [List.take_append_drop] at this; omega
  have hbl := bodyS_length (l.take k)
  refine bsplit_dec (fun c2 => ?_) (fun c2 => ?_) --  (decide (x < (l_l : Int)))
  · have hlt : k < l.length := by omega
    have hsec := secE_ok (hall _ (List.getElem_mem hlt))
    have hmem := used_mem (List.getElem_mem hlt)
    refine ixE hs k rfl hlt fun b s hsk hb => ?_
    obtain rfl : l[k] = s := by rw [List.getElem?_eq_getElem hlt] at hsk; injection hsk
    obtain ⟨sa, sc, h1, h2, h3⟩ := hb
    refine ⟨_, _, _, _, cellsAt_keep (fun _ _ hp _ => H2.below.get hp) h1, ?_⟩ --! load (b.add ((x).toNat * 2)) : ('agg', [('int', 'i64'), ('slice',)]) as [('x_0', 'Int'), ('x_1_a', 'Option Addr'), ('x_1_l', 'Nat'), ('x_1_c', 'Nat')]
    have H2 := H2.hold (slr_held h2)
    refine H2.alloc ?_; clear H2; intro b1 w3 H3
    refine H3.store (i := 1) rfl (by rfl) (by rfl) ?_; clear H3; intro w4 H4
    refine H4.drew ?_; clear H4; intro w5 H5
    refine ⟨fun x => x < w5.heap.size ∧ x ∉ (Res.ints Ty_uint8 .u8 out_a out_c (bodyS (l.take k))).at.toList, ?_⟩
    have f5 := Fr.refl (Res.ints Ty_uint8 .u8 out_a out_c (bodyS (l.take k))).at.toList w5
    have hin := H5.nat (i := 1) (j := 0) rfl rfl (by decide) rfl
    refine ⟨⟨H5.lt (i := 1) rfl rfl, hin⟩, ?_⟩
    refine H5.ld (i := 1) rfl rfl ?_
    refine ⟨⟨H5.lt (i := 1) rfl rfl, hin⟩, ?_⟩
    refine H5.ldS (i := 1) rfl rfl ?_
    refine ⟨⟨H5.lt (i := 1) rfl rfl, hin⟩, ?_⟩
    refine H5.ldS (i := 1) rfl rfl ?_
    refine (block_begin_ct (by omega) (by omega)).mono ?_ -- (.int .i64 x_0), (.int .i64 (x_1_l : Int))
    rintro _ w6 ⟨ha, hc, rfl, K⟩; have hb6 := K.below; have H6 := H5.callR K
    refine ⟨_, _, _, rfl, ?_⟩
    have f6 := f5.tr (hb6.fr []) (by simp)
    refine ⟨f6.keeps, ?_⟩
    refine H6.allocB ?_; intro b2 w7 hb7 H7
    have f7 := f6.tr (hb7.fr []) (by simp)
    refine ⟨f7.keeps, ?_⟩
    have H7 := H7.shareI (i := 2) rfl
    have H7 := H7.share (i := 3) rfl
    obtain ⟨A, hA, hn, hr, hcc⟩ := H7.callM (i := 0) rfl
    refine (block_join_ct (ps := [headS l[k].ch l[k].data.length, l[k].data]) hA (fun w h => parts2 h.1 h.2.1 h.2.2.1) hr hn (by simp [headS]; omega) (by simp)).mono ?_ -- (.slice out_a out_l out_c), (.slice (some ⟨b2, 0, none⟩) 2 2)
    rintro _ w8 ⟨ja, jc, rfl, K8⟩
    have f8 := f7.tr K8.fr (by simp)
    have H8 := (hcc K8).imp (Q := fun _ => True) fun _ _ => trivial
    refine ⟨_, _, _, rfl, ?_⟩
    refine ⟨f8.keeps, ?_⟩
    refine kW_i64 (by omega) ?_ -- x + (1 : Int)
    have e1 : bodyS (l.take k) ++ [headS l[k].ch l[k].data.length, l[k].data].flatten = bodyS (l.take (k + 1)) := by rw [bodyS_take l k hlt]; simp
    rw [e1] at H8 ⊢
    refine ⟨⟨k + 1, by omega, by omega, rfl, H8.sub (fun i => i) ?_ (fun _ _ _ _ h => h)⟩, by show Int.toNat _ < Int.toNat _; omega⟩ --! I r_a1 r_l1 r_c1 (x + (1 : Int))
    rintro (_ | _) r h <;> first | exact h | cases h
  · obtain rfl : k = l.length := by omega
    rw [List.take_length] at H2 hbl hle ⊢
    refine kW_i64 (by omega) ?_ -- room - (out_l : Int)
    refine kLet_in ?_
    obtain ⟨n, hn⟩ : ∃ n : Nat, n = room.toNat - usedS l := ⟨_, rfl⟩
    have hn2 : room - (bodyS l).length = (n : Int) := by omega
    rw [← hn, hn2]
    refine bsplit_dec (fun c1 => ?_) (fun c1 => ?_) --  (decide ((room - (out_l : Int)) ≥ (2 : Int)))
    · refine H2.drew ?_; clear H2; intro w9 H9
      have e1 : padS n = headS 15 (n - 2) ++ List.replicate (n - 2) 0 := by unfold padS; rw [if_neg (by omega), if_neg (by omega)]
      rw [e1]
      have key : ∀ {w13 : World} {R : List Res} {ha ma : Option Addr} {hc mc b4 : Nat} {P : World → Prop}, St (All w) [] w w13 ([.ints Ty_uint8 .u8 out_a out_c (bodyS l), .blk b4 Ty_S_uint8 [.slice ha (headS 15 (n - 2)).length hc, .slice ma (List.replicate (n - 2) (0 : Int)).length mc]] ++ R) (fun w => SlR (IntC .u8) 1 w ha (headS 15 (n - 2)) ∧ SlR (IntC .u8) 1 w ma (List.replicate (n - 2) 0) ∧ P w) →
          Calls Try.prog N_block_join #[.slice out_a (bodyS l).length out_c, .slice (some ⟨b4, 0, none⟩) 2 2] w13 fun e w' => ∃ (ra : Option Addr) (rl rc : Nat), e = .returned (.slice ra rl rc) ∧ (Fr (Res.ints Ty_uint8 .u8 out_a out_c (bodyS l)).at.toList w13 w' ∧
            RetB w (bodyS l ++ (headS 15 (n - 2) ++ List.replicate (n - 2) 0)) 0 (.returned (.tuple #[.slice ra rl rc, .int .i64 0])) w') := by
        intro w13 R ha ma hc mc b4 P H
        have H := H.share (i := 1) rfl
        obtain ⟨A, hA, hn', hr, hcc⟩ := H.callM (i := 0) rfl
        refine (block_join_ct (ps := [headS 15 (n - 2), List.replicate (n - 2) 0]) hA (fun w h => parts2 h.1 h.2.1 h.2.2.1) hr hn' (by simp [headS]; omega) (by simp)).mono ?_
        rintro _ w8 ⟨ja, jc, rfl, K8⟩
        have e2 : [headS 15 (n - 2), List.replicate (n - 2) (0 : Int)].flatten = headS 15 (n - 2) ++ List.replicate (n - 2) 0 := by simp
        rw [e2] at K8 ⊢
        exact ⟨_, _, _, rfl, K8.fr, RetB.of (hcc K8) (i := 0) rfl _⟩
      refine ⟨fun x => x < w9.heap.size ∧ x ∉ (Res.ints Ty_uint8 .u8 out_a out_c (bodyS l)).at.toList, ?_⟩
      have f9 := Fr.refl (Res.ints Ty_uint8 .u8 out_a out_c (bodyS l)).at.toList w9
      refine kW_i64 (by omega) ?_ -- (room - (out_l : Int)) - (2 : Int)
      refine kW_i64 (by omega) ?_ -- (room - (out_l : Int)) - (2 : Int)
      rw [show (n : Int) - 2 = ((n - 2 : Nat) : Int) by omega]
      refine ⟨?_, ?_, trivial⟩ --! fork
      · refine (block_begin_ct (by omega) (by omega)).mono ?_ -- (.int .i64 (15 : Int)), (.int .i64 ((room - (out_l : Int)) - (2 : Int)))
        rintro _ w10 ⟨ha, hc, rfl, K⟩; have hb10 := K.below; have H10 := H9.callR K
        refine ⟨_, _, _, rfl, ?_⟩
        have f10 := f9.tr (hb10.fr []) (by simp)
        refine ⟨f10.keeps, ?_⟩
        refine H10.makeI (n - 2) rfl rfl (by omega) (by omega) fun b3 w11 hb11 H11 => ?_
        have f11 := f10.tr (hb11.fr []) (by simp)
        refine ⟨f11.keeps, ?_⟩
        refine H11.allocB ?_; intro b4 w12 hb12 H12
        have f12 := f11.tr (hb12.fr []) (by simp)
        refine ⟨f12.keeps, ?_⟩
        have H12 := H12.shareI (i := 2) rfl
        have H12 := H12.shareI (i := 1) rfl
        have H12 : St (All w) [] w w12 ([.ints Ty_uint8 .u8 out_a out_c (bodyS l), .blk b4 Ty_S_uint8 [.slice ha (headS 15 (n - 2)).length hc, .slice (some ⟨b3, 0, none⟩) (List.replicate (n - 2) (0 : Int)).length (n - 2)]] ++ []) (fun w => SlR (IntC .u8) 1 w ha (headS 15 (n - 2)) ∧ SlR (IntC .u8) 1 w (some ⟨b3, 0, none⟩) (List.replicate (n - 2) 0) ∧ True) := by
          refine H12.sub (fun i => [0, 3].getD i 0) ?_ ?_
          · rintro (_ | _ | _) r h
            · exact h
            · rw [List.length_replicate] at h; exact h
            · cases h
          · intro i j hi hj; simp only [List.length_cons, List.length_append, List.length_nil] at hi hj; rcases i with _ | _ | i <;> rcases j with _ | _ | j <;> simp <;> omega
        refine (key (P := fun _ => True) H12).mono ?_
        rintro _ w20 ⟨ra, rl, rc, rfl, hf', hR⟩
        exact ⟨_, _, _, rfl, (f12.tr hf' (by simp)).keeps, hR⟩
      · refine H9.makeI (n - 2) rfl rfl (by omega) (by omega) fun b5 w14 hb14 H14 => ?_
        have f14 := f9.tr (hb14.fr []) (by simp)
        refine ⟨f14.keeps, ?_⟩
        refine (block_begin_ct (by omega) (by omega)).mono ?_ -- (.int .i64 (15 : Int)), (.int .i64 ((room - (out_l : Int)) - (2 : Int)))
        rintro _ w15 ⟨ha, hc, rfl, K⟩; have hb15 := K.below; have H15 := H14.callR K
        refine ⟨_, _, _, rfl, ?_⟩
        have f15 := f14.tr (hb15.fr []) (by simp)
        refine ⟨f15.keeps, ?_⟩
        refine H15.allocB ?_; intro b6 w16 hb16 H16
        have f16 := f15.tr (hb16.fr []) (by simp)
        refine ⟨f16.keeps, ?_⟩
        have H16 := H16.shareI (i := 1) rfl
        have H16 := H16.shareI (i := 2) rfl
        have H16 : St (All w) [] w w16 ([.ints Ty_uint8 .u8 out_a out_c (bodyS l), .blk b6 Ty_S_uint8 [.slice ha (headS 15 (n - 2)).length hc, .slice (some ⟨b5, 0, none⟩) (List.replicate (n - 2) (0 : Int)).length (n - 2)]] ++ []) (fun w => SlR (IntC .u8) 1 w ha (headS 15 (n - 2)) ∧ SlR (IntC .u8) 1 w (some ⟨b5, 0, none⟩) (List.replicate (n - 2) 0) ∧ True) := by
          refine H16.sub (fun i => [0, 3].getD i 0) ?_ ?_
          · rintro (_ | _ | _) r h
            · exact h
            · rw [List.length_replicate] at h; exact h
            · cases h
          · intro i j hi hj; simp only [List.length_cons, List.length_append, List.length_nil] at hi hj; rcases i with _ | _ | i <;> rcases j with _ | _ | j <;> simp <;> omega
        refine (key (P := fun _ => True) H16).mono ?_
        rintro _ w20 ⟨ra, rl, rc, rfl, hf', hR⟩
        exact ⟨_, _, _, rfl, (f16.tr hf' (by simp)).keeps, hR⟩
    · refine kLet_in ?_
      refine bsplit_dec (fun c => ?_) (fun c => ?_) --  (decide ((room - (out_l : Int)) = (1 : Int)))
      · refine H2.alloc ?_; clear H2; intro b7 w18 H18
        refine H18.appIB (i := 0) (j := 1) rfl [240] rfl sl_Ty_S_uint8 rfl (by simp; omega) (by simp; omega) ?_; intro x_a2 x_c2 w19 H19
        have e1 : padS n = [240] := by rw [show n = 1 by omega]; rfl
        rw [e1]
        exact RetB.of H19 (i := 0) rfl _ --! (.tuple #[(.slice x_a2 x_l2 x_c2), (.int .i64 (0 : Int))])
      · have e1 : padS n = [] := by rw [show n = 0 by omega]; rfl
        rw [e1, List.append_nil]
        exact RetB.of H2 (i := 0) rfl _ --! (.tuple #[(.slice out_a out_l out_c), (.int .i64 (0 : Int))])
end
end Go.Proofs.Ytjmjdjpbgjjhmaa
