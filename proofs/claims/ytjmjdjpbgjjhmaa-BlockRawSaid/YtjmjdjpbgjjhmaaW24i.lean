import Derived.Test.YtjmjdjpbgjjhmaaW24h
import Derived.Test.YtjmjdjpbgjjhmaaP24c
import Derived.Test.YtjmjdjpbgjjhmaaAz
namespace Go.Proofs.Ytjmjdjpbgjjhmaa
open Go.Sx Go.RowKit

theorem ref24_head_ct {c : Int} {n : Nat} {w : World} (hc : 0 ≤ c ∧ c ≤ 15) (hn : n ≤ 4095) :
    Calls Try.prog N_ref24_head #[(.int .i64 c), (.int .i64 (n : Int))] w fun e w' => ∃ a k, e = .returned (.slice a (headS c n).length k) ∧ FreshR w w' [.ints Ty_uint8 .u8 a k (headS c n)] := by
  apply F_ref24_head_ok
  unfold F_ref24_head
  have H := St.nil w
  refine kW_i64 (by omega) ?_ -- channel * 2 ^ 4
  refine kFdiv ?_
  refine kLet_to (bOr_i64 4 c (by omega) (by omega) (by omega) (by omega)) ?_
  refine kWu8 ?_
  refine kWu8 ?_
  rw [show (c * 2 ^ 4 + (n : Int) / 2 ^ 8) % 256 = 16 * c + (n : Int) / 256 by omega]
  refine H.alloc ?_; clear H; intro b w1 H1
  have := H1.litI (i := 0) (k := .u8) (headS c n) rfl (by simp [headS, maxLen])
  exact ⟨_, _, rfl, this⟩
section
variable {l_a : Option Addr} {l : List Sec} {l_c : Nat} {size : Int} {w : World}
theorem ref24_Encode_ct (hs : SecR w l_a l) (hl : Small l) :
    Calls Try.prog N_ref24_Encode #[(.slice l_a l.length l_c), (.int .i64 size)] w (RetB w (encS l size).1 (encS l size).2) := by
  apply F_ref24_Encode_ok
  unfold F_ref24_Encode
  have H := St.startA w
  refine (ref24_Check_ct hs hl).mono ?_ -- (.slice l_a l_l l_c), (.int .i64 size)
  rintro _ w1 ⟨rfl, hb1⟩; have H1 := H.pass hb1; clear H
  refine ⟨_, rfl, ?_⟩
  refine bsplit_nd (fun c3 => ?_) (fun c3 => ?_) --  (!decide (r = (0 : Int)))
  · rw [encS_err c3]
    exact .nil H1.below _ --! (.tuple #[(.slice none 0 0), (.int .i64 r)])
  rw [encS_ok c3]
  obtain ⟨hroom, hlen, hf, hu⟩ := chk_ok c3
  have hall := firstE_all hf
  have H1 := H1.nilI Ty_uint8 .u8
  refine ⟨fun out_a out_l out_c x => ((l.length - x).toNat, fun w2 => ∃ k : Nat, k ≤ l.length ∧ x = k ∧ out_l = (bodyS (l.take k)).length ∧ St (All w) [] w w2 [.ints Ty_uint8 .u8 out_a out_c (bodyS (l.take k))] (fun _ => True)), ⟨0, by omega, rfl, rfl, H1⟩, ?_⟩ --! I none 0 0 (0 : Int)
  clear H1
  rintro _ out_a out_l out_c x w2 ⟨k, hk, rfl, rfl, H2⟩
  have hle : usedS (l.take k) ≤ usedS l := by
    have := usedS_append (l.take k) (l.drop k); rw [List.take_append_drop] at this; omega
  have hbl := bodyS_length (l.take k)
  refine bsplit_dec (fun c2 => ?_) (fun c2 => ?_) --  (decide (i < (l_l : Int)))
  · have hlt : k < l.length := by omega
    have hsec := secE_ok (hall _ (List.getElem_mem hlt))
    have hmem := used_mem (List.getElem_mem hlt)
    refine H2.drew ?_; clear H2; intro w3 H3
    refine ⟨(· < w.heap.size), ?_⟩
    have low : ∀ {F : Addr → Prop}, (∀ b sa sc, cellsAt w (b.add ((k : Int).toNat * 2)) 0 [.int .i64 l[k].ch, .slice sa l[k].data.length sc] → SlR (IntC .u8) 1 w sa l[k].data → F b) → kIx l_a l.length (k : Int) F := fun h => by
      refine ixE hs k rfl hlt fun b s hsk hb => ?_
      obtain rfl : l[k] = s := by rw [List.getElem?_eq_getElem hlt] at hsk; injection hsk
      obtain ⟨sa, sc, h1, h2, h3⟩ := hb
      exact h b sa sc h1 h2
    refine low fun b sa sc h1 h2 => ?_
    refine ⟨cell_lt (cellsAt_get h1 0 _ rfl), ?_⟩ --!
    refine ld_at (cellsAt_keep (fun _ _ hp _ => H3.below.get hp) h1) 0 rfl ?_
    refine low fun b sa sc h1 h2 => ?_
    refine ⟨cell_lt (cellsAt_get h1 1 _ rfl), ?_⟩ --!
    refine ldS_at (cellsAt_keep (fun _ _ hp _ => H3.below.get hp) h1) 1 rfl ?_
    refine (ref24_head_ct (by omega) (by omega)).mono ?_ -- (.int .i64 x), (.int .i64 (x_l : Int))
    rintro _ w4 ⟨ha, hc, rfl, K⟩; have H4 := H3.callR K
    refine ⟨_, _, _, rfl, ?_⟩
    refine ⟨keepsOld H3.below H4.below, ?_⟩
    refine H4.appI (i := 0) rfl sl_Ty_S_uint8 (H4.slI (i := 1) rfl) (by simp [headS]; omega) (by simp [headS]; omega) ?_; intro x_a1 x_c1 w5 H5 --! append (.slice out_a out_l out_c) (.slice r_a r_l r_c)
    refine ⟨keepsOld H3.below H5.below, ?_⟩ --!
    refine low fun b sa sc h1 h2 => ?_
    refine ldS_at (cellsAt_keep (fun _ _ hp _ => H5.below.get hp) h1) 1 rfl ?_
    refine H5.appI (i := 0) rfl sl_Ty_S_uint8 (h2.below H5.below) (by simp [headS]; omega) (by simp [headS]; omega) ?_; intro x_a3 x_c3 w6 H6 --! append (.slice x_a1 x_l1 x_c1) (.slice x_a2 x_l2 x_c2)
    refine kW_i64 (by omega) ?_ -- i + (1 : Int)
    have e1 : bodyS (l.take k) ++ headS l[k].ch l[k].data.length ++ l[k].data = bodyS (l.take (k + 1)) := by rw [bodyS_take l k hlt, List.append_assoc]
    rw [e1] at H6 ⊢
    refine ⟨⟨k + 1, by omega, by omega, rfl, H6.sub (fun i => i) ?_ (fun _ _ _ _ h => h)⟩, by show Int.toNat _ < Int.toNat _; omega⟩ --! I x_a3 x_l3 x_c3 (i + (1 : Int))
    rintro (_ | _) r h <;> first | exact h | cases h
  · obtain rfl : k = l.length := by omega
    rw [List.take_length] at H2 hbl hle ⊢
    obtain ⟨n, hn⟩ : ∃ n : Nat, n = size.toNat - usedS l := ⟨_, rfl⟩
    have hn2 : size - (bodyS l).length = (n : Int) := by omega
    rw [← hn]
    refine kW_i64 (by omega) ?_ -- size - (out_l : Int)
    rw [hn2]
    refine bsplit_dec (fun c1 => ?_) (fun c1 => ?_) --  (decide ((size - (out_l : Int)) = (1 : Int)))
    · obtain rfl : n = 1 := by omega
      refine H2.alloc ?_; clear H2; intro b3 w7 H7
      refine H7.appIB (i := 0) (j := 1) rfl [240] rfl sl_Ty_S_uint8 rfl (by simp; omega) (by simp; omega) ?_; intro x_a4 x_c4 w8 H8 --! append (.slice out_a out_l out_c) (.slice (some ⟨b3, 0, none⟩) 1 1)
      exact .of H8 (i := 0) rfl 0 --! (.tuple #[(.slice x_a4 x_l4 x_c4), (.int .i64 (0 : Int))])
    · refine bsplit_dec (fun c => ?_) (fun c => ?_) --  (decide ((size - (out_l : Int)) ≥ (2 : Int)))
      · have e1 : padS n = headS 15 (n - 2) ++ List.replicate (n - 2) 0 := by unfold padS; rw [if_neg (by omega), if_neg (by omega)]
        have e2 : (n : Int) - 2 = ((n - 2 : Nat) : Int) := by omega
        refine kW_i64 (by omega) ?_ -- (size - (out_l : Int)) - (2 : Int)
        rw [e2]
        refine (ref24_head_ct (by omega) (by omega)).mono ?_ -- (.int .i64 (15 : Int)), (.int .i64 ((size - (out_l : Int)) - (2 : Int)))
        rintro _ w9 ⟨ha, hc, rfl, K⟩; have H9 := H2.callR K; clear H2
        refine ⟨_, _, _, rfl, ?_⟩
        refine H9.appI (i := 0) rfl sl_Ty_S_uint8 (H9.slI (i := 1) rfl) (by simp [headS]; omega) (by simp [headS]; omega) ?_; intro x_a5 x_c5 w10 H10 --! append (.slice out_a out_l out_c) (.slice r_a1 r_l1 r_c1)
        refine kW_i64 (by omega) ?_ -- (size - (out_l : Int)) - (2 : Int)
        refine H10.appZ (i := 0) rfl sl_Ty_S_uint8 (k2 := .i64) (by kernel_rfl) (by simp [headS]) (n - 2) (by omega) (by simp [headS]; omega) (by simp [headS]; omega) ?_; intro x_a6 x_c6 w11 H11 --! append (.slice x_a5 x_l5 x_c5) (.int .i64 ((size - (out_l : Int)) - (2 : Int)))
        rw [e1, ← List.append_assoc]
        exact .of H11 (i := 0) rfl 0 --! (.tuple #[(.slice x_a6 x_l6 x_c6), (.int .i64 (0 : Int))])
      · obtain rfl : n = 0 := by omega
        have e : bodyS l ++ padS 0 = bodyS l := by simp [padS]
        rw [e]
        exact .of H2 (i := 0) rfl 0 --! (.tuple #[(.slice out_a out_l out_c), (.int .i64 (0 : Int))])
end
end Go.Proofs.Ytjmjdjpbgjjhmaa
