import Derived.Test.YtjmjdjpbgjjhmaaW24a
namespace Go.Proofs.Ytjmjdjpbgjjhmaa
open Go.Sx Go.RowKit

theorem block_begin_ct {c : Int} {n : Nat} {w : World} (hc : 0 ≤ c ∧ c ≤ 15) (hn : n ≤ 4095) :
    Calls Try.prog N_block_begin #[(.int .i64 c), (.int .i64 (n : Int))] w fun e w' => ∃ a k, e = .returned (.slice a (headS c n).length k) ∧ FreshR w w' [.ints Ty_uint8 .u8 a k (headS c n)] := by
  apply F_block_begin_ok
  unfold F_block_begin
  have H := St.nil w
  refine kW_i64 (by omega) ?_ -- channel * 2 ^ 4
  refine kFdiv ?_
  refine kLet_to (bOr_i64 4 c (by omega) (by omega) (by omega) (by omega)) ?_
  refine kWu8 ?_
  refine kWu8 ?_
  rw [show (c * 2 ^ 4 + (n : Int) / 2 ^ 8) % 256 = 16 * c + (n : Int) / 256 by omega]
  refine H.alloc ?_; clear H; intro b w1 H1
  have := H1.litI (i := 0) (k := .u8) (headS c n) rfl (by simp [headS, maxLen])
  exact ⟨_, _, rfl, this⟩

/-- a part of a joined text lies at p -/
def PartE (w : World) (p : Addr) (bs : List Int) : Prop := ∃ a c, w.cell? p = some (.slice a bs.length c) ∧ SlR (IntC .u8) 1 w a bs
theorem block_join_ct {b_a : Option Addr} {b_c : Nat} {ys : List Int} {pa : Option Addr} {pc : Nat} {ps : List (List Int)} {w : World} {A : Nat → Prop} {P : World → Prop} (hP : Held A w P) (hparts : ∀ w, P w → SlR PartE 1 w pa ps)
    (hr : (Res.ints Ty_uint8 .u8 b_a b_c ys).ok w) (hA : ∀ b, (Res.ints Ty_uint8 .u8 b_a b_c ys).at = some b → ¬ A b) (hl : ys.length + ps.flatten.length ≤ 1000000) (hpl : ps.length ≤ 1000) :
    Calls Try.prog N_block_join #[(.slice b_a ys.length b_c), (.slice pa ps.length pc)] w fun e w' => ∃ a c, e = .returned (.slice a (ys ++ ps.flatten).length c) ∧ St A (Res.ints Ty_uint8 .u8 b_a b_c ys).at.toList w w' [.ints Ty_uint8 .u8 a c (ys ++ ps.flatten)] P := by
  apply F_block_join_ok
  unfold F_block_join
  have H := St.startM hP hr hA
  refine ⟨fun b_a1 b_l1 b_c1 x => ((ps.length - x).toNat, fun w1 => ∃ k : Nat, k ≤ ps.length ∧ x = k ∧ b_l1 = (ys ++ (ps.take k).flatten).length ∧ St A (Res.ints Ty_uint8 .u8 b_a b_c ys).at.toList w w1 [.ints Ty_uint8 .u8 b_a1 b_c1 (ys ++ (ps.take k).flatten)] P), ⟨0, by omega, rfl, by simp, by simpa using H⟩, ?_⟩ --! I b_a b_l b_c (0 : Int)
  clear H
  rintro _ b_a1 b_l1 b_c1 x w1 ⟨k, hk, rfl, rfl, H1⟩
  refine bsplit_dec (fun c => ?_) (fun c => ?_) --  (decide (x < (parts_l : Int)))
  · have hlt : k < ps.length := by omega
    have e1 : (ps.take (k + 1)).flatten = (ps.take k).flatten ++ ps[k] := by
      rw [List.take_add_one, List.getElem?_eq_getElem hlt, Option.toList_some, List.flatten_append]; simp
    have e2 : ps.flatten.length = (ps.take (k + 1)).flatten.length + (ps.drop (k + 1)).flatten.length := by
      rw [← List.length_append, ← List.flatten_append, List.take_append_drop]
    have e3 := congrArg List.length e1
    simp only [List.length_append] at e3
    refine ixE (hparts _ H1.get) k rfl hlt fun b s hsk hb => ?_
    obtain rfl : ps[k] = s := by rw [List.getElem?_eq_getElem hlt] at hsk; injection hsk
    obtain ⟨a, c2, hc2, hs⟩ := hb
    refine ⟨_, _, _, hc2, ?_⟩ --! load (b.add ((x).toNat * 1)) : ('p', ('slice',)) as [('x_a', 'Option Addr'), ('x_l', 'Nat'), ('x_c', 'Nat')]
    refine H1.appI (i := 0) rfl sl_Ty_S_uint8 hs (by simp only [List.length_append]; omega) (by simp only [List.length_append]; omega) ?_; intro x_a1 x_c1 w2 H2
    refine kW_i64 (by omega) ?_ -- x + (1 : Int)
    refine ⟨⟨k + 1, by omega, by omega, by rw [e1, List.append_assoc], by rw [e1, ← List.append_assoc]; exact H2⟩, by dsimp only; omega⟩ --! I x_a1 x_l1 x_c1 (x + (1 : Int))
  · obtain rfl : k = ps.length := by omega
    rw [List.take_length] at H1 ⊢
    exact ⟨_, _, rfl, H1⟩ --! (.slice b_a1 b_l1 b_c1)

theorem ref24_SameBytes_ct {a_a b_a : Option Addr} {xs ys : List Int} {a_c b_c : Nat} {w : World} (hx : SlR (IntC .u8) 1 w a_a xs) (hy : SlR (IntC .u8) 1 w b_a ys) (hl : xs.length ≤ 140737488355328) :
    Calls Try.prog N_ref24_SameBytes #[(.slice a_a xs.length a_c), (.slice b_a ys.length b_c)] w fun e w' => e = .returned (.bool (decide (xs = ys))) ∧ Below w.heap.size w w' := by
  apply F_ref24_SameBytes_ok
  unfold F_ref24_SameBytes
  have H := St.nil w
  refine bsplit_nd (fun c2 => ?_) (fun c2 => ?_) --  (!decide ((a_l : Int) = (b_l : Int)))
  · exact ⟨retF (fun h => c2 (by rw [h])), H.below⟩ --! (.bool false)
  have hle : xs.length = ys.length := by omega
  refine ⟨fun i => ((xs.length - i).toNat, fun w1 => ∃ k : Nat, k ≤ xs.length ∧ i = k ∧ xs.take k = ys.take k ∧ FreshR w w1 []), ⟨0, by omega, rfl, rfl, H⟩, ?_⟩ --! I (0 : Int)
  clear H
  rintro _ i w1 ⟨k, hk, rfl, ht, H1⟩
  refine bsplit_dec (fun c1 => ?_) (fun c1 => ?_) --  (decide (i < (a_l : Int)))
  · have hlt : k < xs.length := by omega
    have hlt2 : k < ys.length := by omega
    refine H1.drew ?_; clear H1; intro w2 H2
    refine ixE (hx.below H2.below) k rfl hlt fun b x hsk hb => ?_
    refine ⟨_, hb, ?_⟩
    refine ixE (hy.below H2.below) k rfl hlt2 fun b2 y hsk2 hb2 => ?_
    refine ⟨_, hb2, ?_⟩
    refine bsplit_nd (fun c => ?_) (fun c => ?_) --  (!decide (x = x1))
    · exact ⟨retF (fun h => c (by subst h; rw [hsk] at hsk2; injection hsk2)), H2.below⟩ --! (.bool false)
    · refine kW_i64 (by omega) ?_ -- i + (1 : Int)
      refine ⟨⟨k + 1, by omega, by omega, ?_, H2⟩, by dsimp only; omega⟩ --! I (i + (1 : Int))
      rw [List.take_add_one, List.take_add_one, ht, hsk, hsk2, c]
  · obtain rfl : k = xs.length := by omega
    rw [List.take_length, hle, List.take_length] at ht
    exact ⟨retT ht, H1.below⟩ --! (.bool true)
theorem bytes_Equal_ct {a b : Option Addr} {c1 c2 : Nat} {xs ys : List Int} {w : World} (ha : SlR (IntC .u8) 1 w a xs) (hb : SlR (IntC .u8) 1 w b ys) (hx : Bytes xs) (hy : Bytes ys) :
    Calls Try.prog N_bytes_Equal #[.slice a xs.length c1, .slice b ys.length c2] w fun e w' => e = .returned (.bool (decide (xs = ys))) ∧ Below w.heap.size w w' := by
  apply F_bytes_Equal_ok
  unfold F_bytes_Equal
  refine convS_bytes (e := Ty_uint8) (by kernel_rfl) (by kernel_rfl) (by kernel_rfl) ha ?_
  refine convS_bytes (e := Ty_uint8) (by kernel_rfl) (by kernel_rfl) (by kernel_rfl) hb ?_
  refine ⟨?_, .refl _ _⟩
  rw [str_beq hx hy]

/-- two parts written out -/
theorem parts2 {w : World} {b : Nat} {t : TypeId} {a1 a2 : Option Addr} {c1 c2 : Nat} {xs ys : List Int} (hB : Blk w b t [Value.slice a1 xs.length c1, .slice a2 ys.length c2].toArray) (hx : SlR (IntC .u8) 1 w a1 xs) (hy : SlR (IntC .u8) 1 w a2 ys) :
    SlR PartE 1 w (some ⟨b, 0, none⟩) [xs, ys] := by
  refine .inr ⟨_, rfl, fun i hi => ?_⟩
  rw [add_mk, Nat.zero_add, Nat.mul_one]
  rcases (show i = 0 ∨ i = 1 by simp at hi; omega) with rfl | rfl
  · exact ⟨a1, c1, hB.cell0 0 rfl, hx⟩
  · exact ⟨a2, c2, hB.cell0 1 rfl, hy⟩
end Go.Proofs.Ytjmjdjpbgjjhmaa
