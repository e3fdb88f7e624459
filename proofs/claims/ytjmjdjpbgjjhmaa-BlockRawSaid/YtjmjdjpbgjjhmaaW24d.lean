import Derived.Test.YtjmjdjpbgjjhmaaW24c
namespace Go.Proofs.Ytjmjdjpbgjjhmaa
open Go.Sx Go.RowKit

abbrev XSec := Int × Option Addr × Nat × Nat
def encX (x : XSec) : List Value := [.int .i64 x.1, .slice x.2.1 x.2.2.1 x.2.2.2]
theorem encX_ok : Enc encX 2 := ⟨fun _ => rfl, fun _ => rfl⟩
/-- what stands in the sections of a row -/
def DatR (w : World) (xs : List XSec) (L : List Sec) : Prop :=
  xs.length = L.length ∧ ∀ i (h : i < xs.length) (h' : i < L.length), xs[i].1 = L[i].ch ∧ xs[i].2.2.1 = L[i].data.length ∧ L[i].data.length ≤ xs[i].2.2.2 ∧ SlR (IntC .u8) 1 w xs[i].2.1 L[i].data
theorem DatR.nil (w : World) : DatR w [] [] := ⟨rfl, fun i h => by simp at h⟩
theorem DatR.snoc {w : World} {xs : List XSec} {L : List Sec} (h : DatR w xs L) {s : Sec} {a : Option Addr} {c : Nat} (hs : SlR (IntC .u8) 1 w a s.data) (hc : s.data.length ≤ c) : DatR w (xs ++ [(s.ch, a, s.data.length, c)]) (L ++ [s]) := by
  refine ⟨by simp [h.1], fun i hi hi' => ?_⟩
  by_cases hlt : i < xs.length
  · rw [List.getElem_append_left hlt, List.getElem_append_left (by rw [← h.1]; exact hlt)]
    exact h.2 i hlt _
  · have e1 : i = xs.length := by simp at hi; omega
    subst e1
    have e2 : (xs ++ [(s.ch, a, s.data.length, c)])[xs.length] = (s.ch, a, s.data.length, c) := by simp
    have e3 : (L ++ [s])[xs.length]'hi' = s := by simp [h.1]
    rw [e2, e3]
    exact ⟨rfl, rfl, hc, hs⟩
theorem secR_of {w : World} {a : Option Addr} {xs : List XSec} {L : List Sec} (h : SlR (CE encX) 2 w a xs) (d : DatR w xs L) : SecR w a L := by
  rcases h with rfl | ⟨b, rfl, hc⟩
  · exact .inl (List.eq_nil_of_length_eq_zero d.1.symm)
  · refine .inr ⟨b, rfl, fun i hi => ?_⟩
    have hi' : i < xs.length := by rw [d.1]; exact hi
    obtain ⟨e1, e2, e3, e4⟩ := d.2 i hi' hi
    have hc := hc i hi'
    refine ⟨xs[i].2.1, xs[i].2.2.2, ?_, e4, e3⟩
    have e : encX xs[i] = [.int .i64 L[i].ch, .slice xs[i].2.1 L[i].data.length xs[i].2.2.2] := by unfold encX; rw [e1, e2]
    rw [← e]; exact hc
/-- what a function returns that makes sections, or an error -/
def RetL (w : World) (l : List Sec) (er : Int) : Ending → World → Prop := fun e w' => ∃ a c, l.length ≤ c ∧ e = .returned (.tuple #[.slice a l.length c, .int .i64 er]) ∧ Fresh w w' fun w => SecR w a l
theorem RetL.nil {w w' : World} (b : Below w.heap.size w w') (er : Int) : RetL w [] er (.returned (.tuple #[.slice none 0 0, .int .i64 er])) w' :=
  ⟨none, 0, Nat.le_refl _, rfl, ((St.nil w).pass b).imp fun _ _ => .inl rfl⟩

theorem bytes_getD {bs : List Int} (hb : Bytes bs) (i : Nat) : 0 ≤ bs.getD i 0 ∧ bs.getD i 0 < 256 := by
  rcases Nat.lt_or_ge i bs.length with h | h
  · rw [getD_at h]; exact hb _ h
  · simp [List.getD, List.getElem?_eq_none h]
theorem bytes_take {bs : List Int} (h : Bytes bs) (n : Nat) : Bytes (bs.take n) := fun i hi => by simp only [List.getElem_take]; exact h i (by simp at hi; omega)
theorem bytes_drop {bs : List Int} (h : Bytes bs) (n : Nat) : Bytes (bs.drop n) := fun i hi => by simp only [List.getElem_drop]; exact h _ (by simp at hi; omega)
theorem bytes_app {xs bs : List Int} (h : Bytes xs) (k : Bytes bs) : Bytes (xs ++ bs) := fun i hi => by
  by_cases hlt : i < xs.length
  · rw [List.getElem_append_left hlt]; exact h i hlt
  · rw [List.getElem_append_right (by omega)]; exact k _ (by simp at hi; omega)
theorem bytes_nil : Bytes [] := fun i hi => by simp at hi
theorem bytes_cons {x : Int} {bs : List Int} (hx : 0 ≤ x ∧ x < 256) (h : Bytes bs) : Bytes (x :: bs) := fun i hi => by
  cases i with
  | zero => exact hx
  | succ i => simp only [List.getElem_cons_succ]; exact h i (by simpa using hi)
theorem bytes_head {c : Int} {n : Nat} (hc : 0 ≤ c ∧ c ≤ 15) (hn : n ≤ 255) : Bytes (headS c n) := bytes_cons (by omega) (bytes_cons (by omega) bytes_nil)
theorem bytes_body : ∀ {l : List Sec}, firstE l = 0 → usedS l ≤ 256 → (∀ s ∈ l, Bytes s.data) → Bytes (bodyS l)
  | [], _, _, _ => bytes_nil
  | s :: l, hf, hu, hd => by
    have h1 := secE_ok (firstE_all hf s (by simp))
    simp only [usedS] at hu
    refine bytes_app (bytes_app (bytes_head (by omega) (by omega)) (hd s (by simp))) (bytes_body ?_ (by omega) fun t ht => hd t (by simp [ht]))
    simp only [firstE] at hf
    by_cases ht : secE s.ch s.data.length = 0
    · rwa [if_neg (by simpa using ht)] at hf
    · rw [if_pos ht] at hf; exact absurd hf ht
theorem bytes_pad {n : Nat} (hn : n ≤ 256) : Bytes (padS n) := by
  unfold padS
  split
  · exact bytes_nil
  split
  · exact bytes_cons (by omega) bytes_nil
  · exact bytes_app (bytes_head (by omega) (by omega)) fun i hi => by simp
theorem bytes_enc {l : List Sec} {room : Int} (hd : ∀ s ∈ l, Bytes s.data) : Bytes (encS l room).1 := by
  unfold encS
  split
  · exact bytes_nil
  · rename_i h
    obtain ⟨h1, h2, h3, h4⟩ := chk_ok (by simpa using h)
    exact bytes_app (bytes_body h3 (by omega) hd) (bytes_pad (by omega))

theorem clone_bytes {s_a : Option Addr} {xs : List Int} {s_c : Nat} {w : World} (hs : SlR (IntC .u8) 1 w s_a xs) (hl : xs.length ≤ 140737488355328) :
    Calls Try.prog N_slices_Clone_Sbyte_byte #[(.slice s_a xs.length s_c)] w fun e w' => ∃ a c, e = .returned (.slice a xs.length c) ∧ FreshR w w' [.ints Ty_uint8 .u8 a c xs] := by
  apply F_slices_Clone_Sbyte_byte_ok
  unfold F_slices_Clone_Sbyte_byte
  have H := St.nil w
  cases s_a with
  | none =>
    obtain rfl : xs = [] := by
      rcases hs with h | ⟨b, hb, _⟩
      · exact h
      · cases hb
    exact ⟨none, 0, rfl, H.nilI Ty_uint8 .u8⟩
  | some p =>
    refine bsplit_intro (fun h => by cases h) (fun _ => ?_)
    refine H.alloc ?_; clear H; intro b w1 H1
    have H1 := H1.litI (i := 0) (k := .u8) [] rfl (by decide)
    refine H1.appI (i := 0) rfl sl_Ty_S_uint8 (hs.below H1.below) (by simp; omega) (by simp; omega) ?_; intro x_a x_c w2 H2 --! append (.slice (some ⟨b, 0, none⟩) 0 0) (.slice s_a s_l s_c)
    exact ⟨x_a, x_c, rfl, H2⟩ --! (.slice x_a x_l x_c)

section
variable {b_a : Option Addr} {bs : List Int} {b_c : Nat} {w : World}
theorem block_Decode_ct (hs : SlR (IntC .u8) 1 w b_a bs) (hB : Bytes bs) (hl : bs.length ≤ 140737488355328) (hcap : bs.length ≤ b_c) :
    Calls Try.prog N_block_Decode #[(.slice b_a bs.length b_c)] w (RetL w (decS bs).1 (decS bs).2) := by
  apply F_block_Decode_ok
  unfold F_block_Decode
  have H := St.nil w
  refine bsplit_dec (fun c5 => ?_) (fun c5 => ?_) --  (decide ((b_l : Int) > (256 : Int)))
  · have e : decS bs = ([], 4) := by unfold decS; rw [if_pos (by omega)]
    rw [e]; exact .nil H.below _ --! (.tuple #[(.slice none 0 0), (.int .i64 (4 : Int))])
  have hle : bs.length ≤ 256 := by omega
  have ed : decS bs = decOf bs (parseS bs) := by unfold decS; rw [if_neg (by omega)]
  refine ⟨fun out_a1 out_l1 out_c1 w8 => ∃ (L : List Sec) (xs : List XSec), out_l1 = xs.length ∧ parseS bs = some L ∧ usedS L ≤ bs.length ∧ (∀ s ∈ L, Bytes s.data) ∧ St (fun _ => False) [] w w8 [.els encX Ty_api_Section 2 out_a1 out_c1 xs] (fun w => DatR w xs L), ?_, ?_⟩ --!
  · rintro _ out_a1 out_l1 out_c1 w8 ⟨L, xs, rfl, hp, hu, hLb, H8⟩
    have ed : decS bs = if (encS L bs.length).2 ≠ 0 ∨ (encS L bs.length).1 ≠ bs then ([], 4) else (L, 0) := by rw [ed, hp]; rfl
    have hsec := secR_of (H8.slE encX_ok (i := 0) rfl) H8.get
    have hxl := H8.get.1
    have hLl := len_used L
    rw [hxl]
    refine (block_Encode_ct hsec ⟨by omega, by omega⟩).mono ?_ -- (.slice out_a1 out_l1 out_c1), (.int .i64 (b_l : Int))
    rintro _ w9 ⟨ea, ec, hec, rfl, K⟩; have H9 := H8.callF K; clear H8 K
    refine ⟨_, _, _, _, rfl, ?_⟩
    refine bsplit_nd (fun c4 => ?_) (fun c4 => ?_) --  (!decide (r = (0 : Int)))
    · rw [ed, if_pos (.inl c4)]; exact .nil H9.below _ --! (.tuple #[(.slice none 0 0), (.int .i64 (4 : Int))])
    · refine (bytes_Equal_ct H9.get.1 (hs.below H9.below) (bytes_enc hLb) hB).mono ?_ -- (.slice r_a1 r_l1 r_c1), (.slice b_a b_l b_c)
      rintro _ w10 ⟨rfl, hb10⟩; have H10 := H9.pass hb10; clear H9
      refine ⟨_, rfl, ?_⟩
      refine bsplit_nd (fun c3 => ?_) (fun c3 => ?_) --  (!r1)
      · rw [ed, if_pos (.inr c3)]; exact .nil H10.below _ --! (.tuple #[(.slice none 0 0), (.int .i64 (4 : Int))])
      · rw [ed, if_neg (by simp [c3, c4])]
        refine ⟨out_a1, out_c1, by rw [← hxl]; exact H10.capE (i := 0) rfl, rfl, ?_⟩ --! (.tuple #[(.slice out_a1 out_l1 out_c1), (.int .i64 (0 : Int))])
        exact ((H10.shareE encX_ok (i := 0) rfl).fin).imp fun _ h => secR_of h.1 h.2.2
  · have H := H.nilE encX Ty_api_Section 2
    refine ⟨fun out_a out_l out_c rest_a rest_l rest_c => (rest_l, fun w1 => ∃ (L : List Sec) (xs : List XSec) (r : List Int), rest_l = r.length ∧ out_l = xs.length ∧ r.length ≤ rest_c ∧ SlR (IntC .u8) 1 w rest_a r ∧ Bytes r ∧ parseS bs = (parseS r).map (L ++ ·) ∧ usedS L + r.length = bs.length ∧ (∀ s ∈ L, Bytes s.data) ∧
      St (fun _ => False) [] w w1 [.els encX Ty_api_Section 2 out_a out_c xs] (fun w => DatR w xs L)), ⟨[], [], bs, rfl, rfl, hcap, hs, hB, by cases parseS bs <;> simp, by simp [usedS], fun s hs => by simp at hs, H.imp fun _ _ => .nil _⟩, ?_⟩ --! I none 0 0 b_a b_l b_c
    clear H
    rintro _ out_a out_l out_c rest_a rest_l rest_c w1 ⟨L, xs, r, rfl, rfl, hrc, hr, hrb, hp, hu, hLb, H1⟩
    have stop : (r.length < 2 ∨ r.getD 0 0 / 16 = 15) → ∃ (L : List Sec) (xs' : List XSec), xs.length = xs'.length ∧ parseS bs = some L ∧ usedS L ≤ bs.length ∧ (∀ s ∈ L, Bytes s.data) ∧ St (fun _ => False) [] w w1 [.els encX Ty_api_Section 2 out_a out_c xs'] (fun w => DatR w xs' L) := fun h =>
      ⟨L, xs, rfl, by rw [hp, parseS, if_pos h]; simp, by omega, hLb, H1⟩
    have b0 := bytes_getD hrb 0
    have b1 := bytes_getD hrb 1
    refine ⟨fun w2 => w2 = w1 ∧ 2 ≤ r.length ∧ r.getD 0 0 / 16 ≠ 15, ?_, ?_⟩ --!
    · rintro _ w2 ⟨rfl, hr2, h15⟩
      obtain ⟨n, hn⟩ : ∃ n : Nat, n = (r.getD 0 0 % 16 * 256 + r.getD 1 0).toNat := ⟨_, rfl⟩
      have hpr : parseS r = if n > r.length - 2 then none else (parseS (r.drop (2 + n))).map (⟨r.getD 0 0 / 16, (r.drop 2).take n⟩ :: ·) := by
        rw [parseS, if_neg (by omega), ← hn]
      refine H1.drew ?_; clear H1; intro w3 H3
      refine ixE (hr.below H3.below) 0 rfl (by omega) fun q x hx hq => ?_
      obtain rfl : r.getD 0 0 = x := by rw [List.getD, hx]; rfl
      refine ⟨_, hq, ?_⟩
      refine kLet_to (y := r.getD 0 0 % 16) (by rw [bAnd_u8 (m := 15) 4 (by omega) (by decide) (by decide)]; omega) ?_
      refine kW_i64 (by omega) ?_ -- x3
      refine kW_i64 (by omega) ?_ -- x3 * 2 ^ 8
      refine ixE (hr.below H3.below) 1 rfl (by omega) fun q1 x1 hx1 hq1 => ?_
      obtain rfl : r.getD 1 0 = x1 := by rw [List.getD, hx1]; rfl
      refine ⟨_, hq1, ?_⟩
      refine kW_i64 (by omega) ?_ -- x6
      refine kLet_to (y := (n : Int)) (by rw [bOr_i64 8 (r.getD 0 0 % 16) (by omega) (by omega) (by omega) (by omega)]; omega) ?_
      refine kW_i64 (by omega) ?_ -- (rest_l : Int) - (2 : Int)
      refine bsplit_dec (fun c2 => ?_) (fun c2 => ?_) --  (decide (x8 > ((rest_l : Int) - (2 : Int))))
      · have e : parseS bs = none := by rw [hp, hpr, if_pos (by omega)]; rfl
        rw [ed, e]; exact .nil H3.below _ --! (.tuple #[(.slice none 0 0), (.int .i64 (4 : Int))])
      · refine H3.drew ?_; clear H3; intro w4 H4
        refine ⟨(· < w.heap.size), ?_⟩
        refine ixE hr 0 rfl (by omega) fun q2 x hx2 hq2 => ?_
        obtain rfl : r.getD 0 0 = x := by rw [List.getD, hx2]; rfl
        refine ⟨cell_lt hq2, _, H4.below.get hq2, ?_⟩
        refine kFdiv ?_
        refine kW_i64 (by omega) ?_ -- (x10 / 2 ^ 4)
        refine kW_i64 (by omega) ?_ -- (2 : Int) + x8
        refine ⟨⟨by omega, by omega⟩, ?_⟩ -- hi
        refine ⟨⟨by omega, by omega⟩, ?_⟩ -- lo
        have e1 : (2 + (n : Int)).toNat - (2 : Int).toNat = ((r.drop 2).take n).length := by simp; omega
        rw [e1]
        refine (clone_bytes ((hr.below H4.below).cut hrc n) (by simp; omega)).mono ?_ -- (.slice (slAddr rest_c ((2 : Int).toNat) 1 rest_a) (((2 : Int) + x8).toNat - (2 : Int).toNat) (rest_c - (2 : Int).toNat))
        rintro _ w5 ⟨da, dc, rfl, K⟩; have H5 := H4.callR K; clear K
        refine ⟨_, _, _, rfl, ?_⟩
        refine ⟨keepsOld H4.below H5.below, ?_⟩
        refine ⟨keepsOld H4.below H5.below, ?_⟩
        have hdc := H5.capI (i := 1) rfl
        have H5 := H5.shareI (i := 1) rfl
        refine H5.alloc ?_; intro b4 w6 H6
        refine ⟨keepsOld H4.below H6.below, ?_⟩
        have hxl := H6.get.2.1
        have hLl := len_used L
        rw [show r.getD 0 0 / 2 ^ 4 = r.getD 0 0 / 16 by omega] at *
        refine H6.appEB encX_ok (i := 0) (j := 2) rfl [(r.getD 0 0 / 16, da, ((r.drop 2).take n).length, dc)] rfl sl_Ty_S_api_Section rfl (by simp; omega) (by simp; omega) ?_; intro x_a x_c w7 H7 --! append (.slice out_a out_l out_c) (.slice (some ⟨b4, 0, none⟩) 1 1)
        refine ⟨keepsOld H4.below H7.below, ?_⟩
        refine kW_i64 (by omega) ?_ -- (2 : Int) + x8
        refine ⟨⟨by omega, by omega⟩, ?_⟩ -- lo
        have e2 : (2 + (n : Int)).toNat = 2 + n := by omega
        rw [e2]
        refine ⟨⟨L ++ [⟨r.getD 0 0 / 16, (r.drop 2).take n⟩], _, r.drop (2 + n), by simp, rfl, by simp; omega, hr.tail hrc, bytes_drop hrb _, ?_, ?_, ?_, ?_⟩, by dsimp only; omega⟩ --! I x_a x_l x_c (slAddr rest_c (((2 : Int) + x8).toNat) 1 rest_a) (rest_l - ((2 : Int) + x8).toNat) (rest_c - ((2 : Int) + x8).toNat)
        · rw [hp, hpr, if_neg (by omega)]
          cases parseS (r.drop (2 + n)) <;> simp
        · rw [usedS_append]; simp only [usedS, List.length_drop, List.length_take]; omega
        · intro s hs
          rcases List.mem_append.1 hs with h | h
          · exact hLb s h
          · simp at h; subst h; exact bytes_take (bytes_drop hrb _) _
        · refine (H7.sub (fun i => i) ?_ (fun _ _ _ _ h => h)).imp fun w h => DatR.snoc (s := ⟨r.getD 0 0 / 16, (r.drop 2).take n⟩) (a := da) (c := dc) h.2 h.1 hdc
          rintro (_ | _) r h <;> first | exact h | cases h
    · refine bsplit_dec (fun c1 => ?_) (fun c1 => ?_) --  (decide ((rest_l : Int) ≥ (2 : Int)))
      · refine ixE (hr.below H1.below) 0 rfl (by omega) fun q x hx hq => ?_
        obtain rfl : r.getD 0 0 = x := by rw [List.getD, hx]; rfl
        refine ⟨_, hq, ?_⟩
        refine kFdiv ?_
        refine bsplit_nd (fun c => ?_) (fun c => ?_) --  (!decide ((x / 2 ^ 4) = (15 : Int)))
        · exact ⟨rfl, by omega, by omega⟩ --! J1 
        · exact stop (by omega) --! J out_a out_l out_c
      · exact stop (by omega) --! J out_a out_l out_c
end
end Go.Proofs.Ytjmjdjpbgjjhmaa
