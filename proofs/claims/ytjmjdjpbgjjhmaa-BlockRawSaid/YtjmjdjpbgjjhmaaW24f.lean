import Derived.Test.YtjmjdjpbgjjhmaaW24e
import Derived.Test.YtjmjdjpbgjjhmaaP24b
import Derived.Lib.SlBytesConst
namespace Go.Proofs.Ytjmjdjpbgjjhmaa
open Go.Sx Go.RowKit

theorem convBC {P : Program} {s e : TypeId} (hs : P.underlying s = some (.slice e)) (he : P.underlying e = some (.int .u8)) {w : World} (bs : List Int) {n c : Nat} (hn : n = bs.length) {F : Nat → Option Addr → Nat → Nat → World → Prop}
    (h : ∀ b w', (Fresh w w' fun w => SlR (IntC .u8) 1 w (some ⟨b, 0, none⟩) bs) → F b (some ⟨b, 0, none⟩) bs.length c w') {cs : Array Value} (hcs : cs = (bs.map (Value.int .u8)).toArray) :
    kAlloc w cs e fun b w1 => ConvB P s s (.slice (some ⟨b, 0, none⟩) n c) w1 (F b) := by
  subst hn; subst hcs
  refine ⟨_, _, _, _, Go.Lib.run_convert_bytes_const w s e _ _ c hs he, h _ _ ?_⟩
  have key : ∀ w' : World, w'.heap[w.heap.size]? = some (.cells (bs.map (Value.int .u8)).toArray e ((bs.map (Value.int .u8)).toArray.size, (bs.map (Value.int .u8)).toArray.size + 1)) → SlR (IntC .u8) 1 w' (some ⟨w.heap.size, 0, none⟩) bs := fun w' hw => by
    refine .inr ⟨_, rfl, fun i hi => ?_⟩
    show w'.cell? _ = _
    rw [add_mk, Nat.zero_add, Nat.mul_one]
    simp [World.cell?, hw, hi]
  have hnew : ∀ o : Obj, (w.alloc o).heap[w.heap.size]? = some o := fun o => by
    show (w.heap.push o)[w.heap.size]? = _
    simp
  have hB := (Below.refl w.heap.size w).alloc (Nat.le_refl _) (.cells (bs.map (Value.int .u8)).toArray e ((bs.map (Value.int .u8)).toArray.size, (bs.map (Value.int .u8)).toArray.size + 1))
  refine ⟨hB.fr [], fun i r h => by simp at h, fun i r h => by simp at h, fun i j r s h => by simp at h, fun b => b = w.heap.size, ⟨fun b hb => ?_, fun w' hw => key w' ((hw _ rfl).trans (hnew _))⟩, fun b hb => .inr (by omega), fun i r h => by simp at h⟩
  subst hb
  rcases Nat.lt_or_ge w.heap.size (w.alloc (.cells (bs.map (Value.int .u8)).toArray e ((bs.map (Value.int .u8)).toArray.size, (bs.map (Value.int .u8)).toArray.size + 1))).heap.size with h | h
  · exact h
  · have := hnew (.cells (bs.map (Value.int .u8)).toArray e ((bs.map (Value.int .u8)).toArray.size, (bs.map (Value.int .u8)).toArray.size + 1))
    rw [Array.getElem?_eq_none h] at this; cases this
theorem law24_awake_ct {w : World} :
    Calls Try.prog N_law24_awake #[] w fun e w' => e = .returned (.bool true) ∧ Below w.heap.size w w' := by
  apply F_law24_awake_ok
  unfold F_law24_awake
  have H := St.nil w
  refine convBC (by kernel_rfl) (by kernel_rfl) [97, 98] rfl (fun b w1 S1 => ?_) rfl --! (.slice (some ⟨b, 0, none⟩) 2 2)
  have H1 := H.callF S1; clear H
  refine H1.alloc ?_; clear H1; intro b1 w3 H3
  have hR : SecR w3 (some ⟨b1, 0, none⟩) [⟨3, [97, 98]⟩] := by
    refine secR_of (xs := [(3, some ⟨b, 0, none⟩, 2, 2)]) (H3.slBlk encX_ok (i := 0) _ rfl) ?_
    exact DatR.snoc (s := ⟨3, [97, 98]⟩) (DatR.nil _) H3.get.1 (Nat.le_refl _)
  refine (block_Encode_ct (l := [⟨3, [97, 98]⟩]) hR ⟨by decide, by decide⟩).mono ?_ -- (.slice (some ⟨b1, 0, none⟩) 1 1), (.int .i64 (5 : Int))
  rintro _ w4 ⟨ra, rc, hrc, rfl, S4⟩
  have hE : encS [⟨3, [97, 98]⟩] 5 = ([48, 2, 97, 98, 240], 0) := by decide
  have hD : decS [48, 2, 97, 98, 240] = ([⟨3, [97, 98]⟩], 0) := by
    have := decS_enc (l := [⟨3, [97, 98]⟩]) (room := 5) (by decide)
    rwa [hE] at this
  have hB : Bytes [48, 2, 97, 98, 240] := bytes_cons (by omega) (bytes_cons (by omega) (bytes_cons (by omega) (bytes_cons (by omega) (bytes_cons (by omega) bytes_nil))))
  rw [hE] at S4 hrc ⊢
  have H4 := H3.callF S4; clear H3
  refine ⟨_, _, _, _, rfl, ?_⟩
  refine (block_Decode_ct H4.get.1 (show Bytes [48, 2, 97, 98, 240] from hB) (by decide) hrc).mono ?_ -- (.slice r_a r_l r_c)
  rintro _ w5 ⟨ra1, rc1, hrc1, rfl, S5⟩
  rw [hD] at S5 hrc1 ⊢
  have H5 := H4.callF S5; clear H4
  refine ⟨_, _, _, _, rfl, ?_⟩
  refine bsplit_dec (fun c3 => ?_) (fun c3 => absurd rfl c3) --  (decide (r = (0 : Int)))
  refine bsplit_dec (fun c2 => ?_) (fun c2 => absurd rfl c2) --  (decide (r1 = (0 : Int)))
  refine convS_bytes (e := Ty_uint8) (by kernel_rfl) (by kernel_rfl) (by kernel_rfl) H5.get.2.1 ?_ --! (.slice r_a r_l r_c)
  refine bsplit_intro (fun c1 => ?_) (fun c1 => absurd c1 (by decide)) --  (x == ⟨#[48, 2, 97, 98, 240]⟩)
  refine bsplit_dec (fun c => ?_) (fun c => absurd rfl c) --  (decide ((r_l1 : Int) = (1 : Int)))
  refine ixE H5.get.1 0 rfl (by decide) fun b s hsk hb => ?_
  obtain rfl := (Option.some.inj hsk)
  obtain ⟨a, c, h1, h2, h3⟩ := hb
  refine ld_at h1 0 rfl ?_
  refine kLet_in ?_
  exact ⟨rfl, H5.fin.below⟩ --! (.bool (decide (x1 = (3 : Int))))

section
variable {a_a b_a : Option Addr} {l m : List Sec} {a_c b_c : Nat} {w : World}
theorem ref24_Same_ct (hl : SecR w a_a l) (hm : SecR w b_a m) (hs : l.length ≤ 140737488355328) (hd : ∀ s ∈ l, s.data.length ≤ 140737488355328) :
    Calls Try.prog N_ref24_Same #[(.slice a_a l.length a_c), (.slice b_a m.length b_c)] w fun e w' => e = .returned (.bool (decide (l = m))) ∧ Below w.heap.size w w' := by
  apply F_ref24_Same_ok
  unfold F_ref24_Same
  have H := St.nil w
  refine bsplit_nd (fun c3 => ?_) (fun c3 => ?_) --  (!decide ((a_l : Int) = (b_l : Int)))
  · exact ⟨retF (fun h => by subst h; omega), H.below⟩ --! (.bool false)
  · have hlen : l.length = m.length := by omega
    refine ⟨fun i => ((l.length - i).toNat, fun w1 => ∃ k : Nat, k ≤ l.length ∧ i = k ∧ l.take k = m.take k ∧ FreshR w w1 []), ⟨0, by omega, rfl, rfl, H⟩, ?_⟩ --! I (0 : Int)
    clear H
    rintro _ i w1 ⟨k, hk, rfl, hI, H1⟩
    refine bsplit_dec (fun c2 => ?_) (fun c2 => ?_) --  (decide (i < (a_l : Int)))
    · have hlt : k < l.length := by omega
      have hlt2 : k < m.length := by omega
      refine H1.drew ?_; clear H1; intro w2 H2
      refine ⟨(· < w2.heap.size), ?_⟩
      refine ixE (secR_below hl H2.below) k rfl hlt fun b s hsk hb => ?_
      obtain rfl : l[k] = s := by rw [List.getElem?_eq_getElem hlt] at hsk; injection hsk
      obtain ⟨a, c, h1, h2, h3⟩ := hb
      refine ⟨cell_lt (cellsAt_get h1 0 _ rfl), ?_⟩ --!
      refine ld_at h1 0 rfl ?_
      refine ixE (secR_below hm H2.below) k rfl hlt2 fun b' s hsk hb' => ?_
      obtain rfl : m[k] = s := by rw [List.getElem?_eq_getElem hlt2] at hsk; injection hsk
      obtain ⟨a', c', h1', h2', h3'⟩ := hb'
      refine ⟨cell_lt (cellsAt_get h1' 0 _ rfl), ?_⟩ --!
      refine ld_at h1' 0 rfl ?_
      have hno : ∀ (h : l[k] ≠ m[k]), l ≠ m := fun h e => h (by subst e; rfl)
      refine bsplit_nd (fun c1 => ?_) (fun c1 => ?_) --  (!decide (x = x1))
      · exact ⟨retF (hno fun e => c1 (by rw [e])), H2.below⟩ --! (.bool false)
      · refine ixE (secR_below hl H2.below) k rfl hlt fun b s hsk hb => ?_
        obtain rfl : l[k] = s := by rw [List.getElem?_eq_getElem hlt] at hsk; injection hsk
        obtain ⟨a, c, h1, h2, h3⟩ := hb
        refine ldS_at h1 1 rfl ?_
        refine ixE (secR_below hm H2.below) k rfl hlt2 fun b' s hsk hb' => ?_
        obtain rfl : m[k] = s := by rw [List.getElem?_eq_getElem hlt2] at hsk; injection hsk
        obtain ⟨a', c', h1', h2', h3'⟩ := hb'
        refine ldS_at h1' 1 rfl ?_
        refine (ref24_SameBytes_ct h2 h2' (hd _ (List.getElem_mem hlt))).mono ?_ -- (.slice x_a x_l x_c), (.slice x_a1 x_l1 x_c1)
        rintro _ w3 ⟨rfl, hb3⟩; have H3 := H2.pass hb3
        refine ⟨_, rfl, ?_⟩
        refine ⟨hb3.keeps, ?_⟩
        refine bsplit_nd (fun c => ?_) (fun c => ?_) --  (!r)
        · exact ⟨retF (hno fun e => c (by rw [e])), H3.below⟩ --! (.bool false)
        · refine kW_i64 (by omega) ?_ -- i + (1 : Int)
          refine ⟨⟨k + 1, by omega, by omega, ?_, H3⟩, by dsimp only; omega⟩ --! I (i + (1 : Int))
          rw [List.take_add_one, List.take_add_one, hI, List.getElem?_eq_getElem hlt, List.getElem?_eq_getElem hlt2]
          have e : l[k] = m[k] := by
            cases h : l[k]; cases h' : m[k]
            rw [h, h'] at c1 c; simp only at c1 c; subst c1; subst c; rfl
          rw [e]
    · obtain rfl : k = l.length := by omega
      rw [List.take_length, hlen, List.take_length] at hI
      exact ⟨retT hI, H1.below⟩ --! (.bool true)
end

/-- sections that are thrown -/
theorem throwS {A0 : Nat → Prop} {w0 w : World} {P : World → Prop} (H : St A0 [] w0 w [] P) {a : Option Addr} {c : Nat} {ts : List Int} (hs : SlR (IntC .i64) 1 w a ts) (hl : ts.length ≤ 1000000) {K : Option Addr → Nat → Nat → World → Prop}
    (h : ∀ ra rc L xs w', MadeS L → L.length ≤ rc → St A0 [] w0 w' [] (fun w => (SlR (CE encX) 2 w ra xs ∧ DatR w xs L) ∧ P w) → K ra L.length rc w') :
    Calls Try.prog N_roll_Roll #[(.slice a ts.length c)] w fun e w' => ∃ r : Option Addr, e = .returned (.pointer r) ∧
      Calls Try.prog N_law24_sections #[.pointer r] w' fun e w' => ∃ (ra : Option Addr) (rl rc : Nat), e = .returned (.slice ra rl rc) ∧ K ra rl rc w' := by
  refine (roll_Roll_ct hs hl).mono ?_
  rintro _ w1 ⟨g, a', c', rfl, S1⟩
  refine ⟨_, rfl, ?_⟩
  have H1 := H.callF S1; clear H
  obtain ⟨A, hA, hn', hr, hc⟩ := H1.callM (i := 0) rfl
  refine (law24_sections_ct (P := fun w => SlR (IntC .i64) 1 w a' ts ∧ P w) hA ⟨fun w h => h.1, hl⟩ hr hn' (Nat.zero_le _)).mono ?_
  rintro _ w2 ⟨ra, rc, L, xs, p', rfl, hM, hp, S2⟩
  have H2 := hc S2
  have hcap := S2.capE (i := 1) rfl
  have hx := S2.get.1.1
  refine ⟨_, _, _, rfl, h _ _ L xs w2 hM (by omega) ?_⟩
  have H2 := H2.shareE encX_ok (i := 1) rfl
  exact H2.fin.imp fun w h => ⟨⟨h.1, h.2.1.1⟩, h.2.2.2⟩
end Go.Proofs.Ytjmjdjpbgjjhmaa
