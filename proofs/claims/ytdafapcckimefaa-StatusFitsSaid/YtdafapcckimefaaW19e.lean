import Derived.Test.YtdafapcckimefaaW19d
import Derived.Test.YtdafapcckimefaaLq
namespace Go.Sx
theorem rdR_short (n : Nat) : rdR (n + 1) [] = none := rfl
theorem getN1 (x : Int) : getN [x] = x := by simp [getN]
theorem getN2 (x y : Int) : getN [x, y] = 256 * x + y := by simp [getN]
theorem take1 {l : List Int} (h : ¬ l.length < 1) : ∃ x r, l = x :: r := by
  cases l with
  | nil => simp at h
  | cons x r => exact ⟨x, r, rfl⟩
theorem take2 {l : List Int} (h : ¬ l.length < 2) : ∃ x y r, l = x :: y :: r := by
  rcases l with _ | ⟨x, _ | ⟨y, r⟩⟩
  · simp at h
  · simp at h
  · exact ⟨x, y, r, rfl⟩
theorem bytes2 {x y : Int} {l : List Int} (h : Bytes (x :: y :: l)) : (0 ≤ x ∧ x < 256) ∧ (0 ≤ y ∧ y < 256) ∧ Bytes l :=
  ⟨h 0 (by simp), h 1 (by simp), fun i hi => h (i + 2) (by simpa using hi)⟩
theorem bytes1 {x : Int} {l : List Int} (h : Bytes (x :: l)) : (0 ≤ x ∧ x < 256) ∧ Bytes l :=
  ⟨h 0 (by simp), fun i hi => h (i + 1) (by simpa using hi)⟩
def rdX (k : Nat) (v : Int) : List Int → Option (List Rg)
  | e :: f :: g :: h :: l => (rdR k l).map (⟨v / 16, 256 * e + f, 256 * g + h⟩ :: ·)
  | _ => none
theorem rdR_step (k : Nat) (p q : Int) (l : List Int) : rdR (k + 1) (p :: q :: l) = if (256 * p + q) % 16 = 1 then rdX k (256 * p + q) l else (rdR k l).map (⟨(256 * p + q) / 16, 0, 0⟩ :: ·) := by
  rcases l with _ | ⟨e, _ | ⟨f, _ | ⟨g, _ | ⟨h, l⟩⟩⟩⟩ <;> rfl
end Go.Sx
namespace Go.Proofs.Ytdafapcckimefaa
open Go.Sx Go.RowKit
abbrev rd (b2 : Nat) (a : Option Addr) (c : Nat) (rest : List Int) : Res := .blk b2 Ty_status_reader [.slice a rest.length c]
def ended : List PanicEntry := [{ v := endedV, recovered := false }]
section
variable {b2 : Nat} {a : Option Addr} {c : Nat} {rest : List Int} {w : World} {A : Nat → Prop} {P : World → Prop}
theorem status_reader_take_ct (hP : Held A w P) (hr : (rd b2 a c rest).ok w) (hn : ∀ b, (rd b2 a c rest).at = some b → ¬ A b) (hs : ∀ w, P w → SlR (IntC .u8) 1 w a rest) (hb : Bytes rest) (hc : rest.length ≤ c) (n : Nat) (hn7 : n ≤ 7) :
    Calls Try.prog N_status_reader_take #[(.pointer (some ⟨b2, 0, none⟩)), (.int .i64 n)] w fun e w' => (rest.length < n ∧ e = .panicked ended ∧ St A [b2] w w' [rd b2 a c rest] P) ∨
      (n ≤ rest.length ∧ e = .returned (.int .i64 (getN (rest.take n))) ∧ St A [b2] w w' [rd b2 (slAddr c n 1 a) (c - n) (rest.drop n)] P) := by
  apply F_status_reader_take_ok
  unfold F_status_reader_take
  have H : St A [b2] w w [rd b2 a c rest] P := St.startM hP hr hn
  refine ⟨fun w1 => n ≤ rest.length ∧ St A [b2] w w1 [rd b2 a c rest] P, ?_, ?_⟩ --!
  · rintro _  w1 ⟨hnl, H1⟩
    refine H1.ldS (i := 0) rfl rfl ?_
    refine ⟨⟨by omega, by omega⟩, ?_⟩ -- hi
    rw [Int.toNat_natCast]
    refine ⟨fun x x1 => ((n - x1).toNat, fun w2 => ∃ k : Nat, x1 = k ∧ k ≤ n ∧ x = getN (rest.take k) ∧ St A [b2] w w2 [rd b2 a c rest] P), ⟨0, rfl, Nat.zero_le _, by simp [getN], H1⟩, ?_⟩ --! I (0 : Int) (0 : Int)
    clear H1
    rintro _ x x1 w2 ⟨k, rfl, hk, rfl, H2⟩
    refine bsplit_dec (fun c1 => ?_) (fun c1 => ?_) --  (decide (x1 < ((n.toNat - 0) : Int)))
    · have hlt : k < rest.length := by omega
      have hr := getN_range (l := rest.take k) fun i hi => by
        simp only [List.getElem_take]
        exact hb _ _
      have hp := pow256_le (n := (rest.take k).length) (by simp; omega)
      have hx := hb k hlt
      have es : rest.take (k + 1) = rest.take k ++ [rest[k]] := by rw [List.take_add_one, List.getElem?_eq_getElem hlt]; rfl
      have hr2 := getN_range (l := rest.take (k + 1)) fun i hi => by
        simp only [List.getElem_take]
        exact hb _ _
      have hp2 := pow256_le (n := (rest.take (k + 1)).length) (by simp; omega)
      rw [es, getN_snoc] at hr2
      rw [← es] at hr2
      have hsn : SlR (IntC .u8) 1 w2 (slAddr c 0 1 a) (rest.take n) := (hs _ H2.get).pre c n
      have eln : n - 0 = (rest.take n).length := by simp; omega
      rw [eln]
      refine ixE hsn k rfl (by simp; omega) fun b x hxk hb1 => ?_
      obtain rfl : rest[k] = x := by
        rw [List.getElem?_take, if_pos (by omega), List.getElem?_eq_getElem hlt] at hxk; injection hxk
      refine ⟨_, hb1, ?_⟩
      refine kW_i64 (by omega) ?_ -- x * 2 ^ 8
      refine kW_i64 (by omega) ?_ -- x2
      refine kLet_intro fun x5 hx5 => ?_ --! bOr .i64 (x * 2 ^ 8) x2
      rw [bOr_i64 8 (getN (rest.take k)) (by omega) (by omega) (by omega) (by omega)] at hx5
      refine kW_i64 (by omega) ?_ -- x1 + (1 : Int)
      exact ⟨⟨k + 1, by omega, by omega, by rw [es, getN_snoc, hx5]; omega, H2⟩, by dsimp only; omega⟩ --! I x5 (x1 + (1 : Int))
    · obtain rfl : k = n := by omega
      refine H2.ldS (i := 0) rfl rfl ?_
      refine ⟨⟨by omega, by omega⟩, ?_⟩ -- lo
      refine H2.set (i := 0) rfl (by simp) ?_; clear H2; intro w3 H3
      have el : rest.length - k = (rest.drop k).length := by simp
      rw [el] at H3
      exact .inr ⟨hnl, rfl, H3⟩ --! (.int .i64 x)
  · refine H.ldS (i := 0) rfl rfl ?_
    refine bsplit_dec (fun cc => ?_) (fun cc => ?_) --  (decide ((x_l : Int) < n))
    · exact .inl ⟨by omega, rfl, H⟩
    · exact ⟨by omega, H⟩ --! J 
end
section
variable {A0 : Nat → Prop} {M : List Nat} {w0 w : World} {R : List Res} {P : World → Prop} {i b2 : Nat} {a : Option Addr} {c : Nat} {rest : List Int}
theorem dTake (H : St A0 M w0 w R P) (hi : R[i]? = some (rd b2 a c rest)) (hs : ∀ w, P w → SlR (IntC .u8) 1 w a rest) (hb : Bytes rest) (hc : rest.length ≤ c) (n : Nat) (hn7 : n ≤ 7) {K : Int → World → Prop} {Pn : List PanicEntry → World → Prop}
    (hp : rest.length < n → ∀ w', St A0 M w0 w' R P → Pn ended w')
    (h : n ≤ rest.length → ∀ w', St A0 M w0 w' (R.set i (rd b2 (slAddr c n 1 a) (c - n) (rest.drop n))) P → K (getN (rest.take n)) w') :
    Calls Try.prog N_status_reader_take #[(.pointer (some ⟨b2, 0, none⟩)), (.int .i64 n)] w fun e w' => (∃ r : Int, e = .returned (.int .i64 r) ∧ K r w') ∨ ∃ ch : List PanicEntry, e = .panicked ch ∧ Pn ch w' := by
  obtain ⟨A, hA, hn', hr, hcc⟩ := H.callM hi
  refine (status_reader_take_ct hA hr hn' hs hb hc n hn7).mono ?_
  rintro _ w2 (⟨h1, rfl, S⟩ | ⟨h1, rfl, S⟩)
  · have := hcc S
    rw [List.append_nil, list_set_self hi] at this
    exact .inr ⟨_, rfl, hp h1 w2 (this.imp fun _ h => h.2)⟩
  · have := hcc S
    rw [List.append_nil] at this
    exact .inl ⟨_, rfl, h h1 w2 (this.imp fun _ h => h.2)⟩
end
def RetS (w : World) (s : Stt) (er : Int) : Ending → World → Prop := fun e w' => ∃ a c, s.miss.length ≤ c ∧ e = .returned (.tuple #[.agg #[.int .i64 s.upto, .slice a s.miss.length c], .int .i64 er]) ∧ Fresh w w' fun w => SlR (CE encR) 3 w a s.miss
theorem RetS.zero {w w' : World} (b : Below w.heap.size w w') (er : Int) : RetS w .zero er (.returned (.tuple #[.agg #[.int .i64 0, .slice none 0 0], .int .i64 er])) w' :=
  ⟨none, 0, Nat.le_refl _, rfl, ((St.nil w).pass b).imp fun _ _ => .inl rfl⟩
section
variable {bits : Int} {b_a : Option Addr} {bs : List Int} {b_c : Nat} {w : World}
theorem leave_pan {w' : World} {R : List Res} {P : World → Prop} {A0 : Nat → Prop} {b b1 : Nat} {u e : Int} {ma : Option Addr} {ml mc : Nat} (H : St A0 [] w w' R P) (h0 : R[0]? = some (.blk b Ty_api_Status [.int .i64 u, .slice ma ml mc])) (h1 : R[1]? = some (.blk b1 Ty_api_Errno [.int .i64 e])) :
    L_status_Decode b b1 (fun v w' => RetS w .zero 5 (.returned v) w') (.panicking ended) w' := by
  refine ⟨by kernel_rfl, decode1_pan ?_⟩
  refine H.store h0 (by rfl) (by rfl) fun w1 H1 => ?_
  have h1' : (R.set 0 (.blk b Ty_api_Status [.int .i64 0, .slice none 0 0]))[1]? = some (.blk b1 Ty_api_Errno [.int .i64 e]) := by rw [List.getElem?_set_ne (by omega)]; exact h1
  refine H1.set h1' (by simp) fun w2 H2 => ?_
  have l0 : 0 < R.length := (List.getElem?_eq_some_iff.1 h0).1
  have l1 : 1 < R.length := (List.getElem?_eq_some_iff.1 h1).1
  refine ⟨_, _, _, _, H2.cells (i := 0) (b := b) (t := Ty_api_Status) (by rw [List.getElem?_set_ne (by omega), List.getElem?_set_self l0]), ?_⟩
  refine H2.ld (i := 1) (by rw [List.getElem?_set_self (by simpa using l1)]) rfl ?_
  exact RetS.zero H2.fin.below _
theorem leave_ret {w' : World} {R : List Res} {P : World → Prop} {A0 : Nat → Prop} {b b1 : Nat} {e : Int} {s : Stt} {ma : Option Addr} {mc : Nat} (H : St A0 [] w w' R P) (h0 : R[0]? = some (.blk b Ty_api_Status [.int .i64 s.upto, .slice ma s.miss.length mc])) (h1 : R[1]? = some (.blk b1 Ty_api_Errno [.int .i64 e]))
    (hf : s.miss.length ≤ mc ∧ Fresh w w' fun w => SlR (CE encR) 3 w ma s.miss) : L_status_Decode b b1 (fun v w' => RetS w s e (.returned v) w') .returning w' := by
  refine ⟨by kernel_rfl, decode1_ret ?_⟩
  refine ⟨_, _, _, _, H.cells h0, ?_⟩
  refine H.ld h1 rfl ?_
  exact ⟨_, _, hf.1, rfl, hf.2⟩
theorem status_Decode_ct (hs : SlR (IntC .u8) 1 w b_a bs) (hb : Bytes bs) (hc : bs.length ≤ b_c) (hl : bs.length ≤ 140737488355328) :
    Calls Try.prog N_status_Decode #[(.int .i64 bits), (.slice b_a bs.length b_c)] w (RetS w (decS bits bs).1 (decS bits bs).2) := by
  apply F_status_Decode_ok
  unfold F_status_Decode
  have H := (St.startA w).hold (slr_held hs)
  refine H.alloc ?_; clear H; intro b w1 H1
  refine H1.alloc ?_; clear H1; intro b1 w2 H2
  refine counter_Bits_ct.mono ?_ -- (.int .i64 bits)
  rintro _ w3 ⟨rfl, hb3⟩; have H3 := H2.pass hb3; clear H2
  refine ⟨_, rfl, ?_⟩
  refine bsplit_nd (fun c => ?_) (fun c => ?_) --  (!r)
  · have e0 : decS bits bs = (.zero, 3) := if_pos c
    rw [e0]
    refine H3.store (i := 0) rfl (by rfl) (by rfl) ?_; clear H3; intro w4 H4
    refine H4.set (i := 1) rfl (by simp) ?_; clear H4; intro w5 H5
    refine ⟨_, _, _, _, H5.cells (i := 0) rfl, ?_⟩
    refine H5.ld (i := 1) rfl rfl ?_
    exact RetS.zero H5.fin.below _
  · have e0 : decS bits bs = match rdS bs with | none => (.zero, 5) | some s => if okS bits s ∧ bytesS s = bs then (s, 0) else (.zero, 4) := if_neg (not_not_intro c)
    have none_ : ∀ {w' : World} {R : List Res} {P : World → Prop} {A0 : Nat → Prop} {u e : Int} {ma : Option Addr} {ml mc : Nat}, rdS bs = none → St A0 [] w w' R P → R[0]? = some (.blk b Ty_api_Status [.int .i64 u, .slice ma ml mc]) → R[1]? = some (.blk b1 Ty_api_Errno [.int .i64 e]) →
        L_status_Decode b b1 (fun v w' => RetS w (decS bits bs).1 (decS bits bs).2 (.returned v) w') (.panicking ended) w' := fun h H h0 h1 => by
      rw [e0, h]; exact leave_pan H h0 h1
    refine H3.alloc ?_; clear H3; intro b2 w6 H6
    refine dTake H6 (i := 2) (c := b_c) rfl (fun _ h => h.1) hb hc 2 (by omega) (fun h w' H' => none_ (by
      rcases bs with _ | ⟨x, _ | ⟨y, r⟩⟩
      · rfl
      · rfl
      · (simp only [List.length_cons] at h; omega)) H' rfl rfl) fun h w7 H7 => ?_
    obtain ⟨x, y, r1, rfl⟩ := take2 (show ¬ bs.length < 2 by omega)
    obtain ⟨hx, hy, hb1⟩ := bytes2 hb
    simp only [List.take_succ_cons, List.take_zero, List.drop_succ_cons, List.drop_zero, getN2] at H7 ⊢
    clear H6
    have s1 : SlR (IntC .u8) 1 w (slAddr b_c 2 1 b_a) r1 := by have := hs.tail (l := 2) hc; simpa using this
    have c1 : r1.length ≤ b_c - 2 := by simp only [List.length_cons] at hc; omega
    have H7 := H7.hold (slr_held s1)
    refine H7.set (i := 0) rfl (by simp) ?_; clear H7; intro w8 H8
    refine dTake H8 (i := 2) (c := b_c - 2) rfl (fun _ h => h.1) hb1 c1 1 (by omega) (fun h w' H' => none_ (by
      cases r1 with
      | nil => rfl
      | cons n r => simp at h) H' rfl rfl) fun h w9 H9 => ?_
    obtain ⟨n, r2, rfl⟩ := take1 (show ¬ r1.length < 1 by omega)
    obtain ⟨hn, hb2⟩ := bytes1 hb1
    simp only [List.take_succ_cons, List.take_zero, List.drop_succ_cons, List.drop_zero, getN1] at H9 ⊢
    clear H8
    have s2 : SlR (IntC .u8) 1 w (slAddr (b_c - 2) 1 1 (slAddr b_c 2 1 b_a)) r2 := by have := s1.tail (l := 1) c1; simpa using this
    have c2 : r2.length ≤ b_c - 2 - 1 := by simp only [List.length_cons] at c1; omega
    obtain ⟨m, rfl⟩ := natOf hn.1
    have H9 := H9.nilE encR Ty_api_Range 3
    have hrd : rdS (x :: y :: (m : Int) :: r2) = (rdR m r2).map (⟨256 * x + y, ·⟩) := by simp [rdS]
    refine ⟨fun n => (n.toNat, fun w10 => ∃ (k : Nat) (a : Option Addr) (c : Nat) (rest : List Int) (L : List Rg) (ma : Option Addr) (mc : Nat), n = k ∧ k ≤ 255 ∧ SlR (IntC .u8) 1 w a rest ∧ rest.length ≤ c ∧ Bytes rest ∧ L.length + k ≤ 255 ∧ (rdR m r2).map (⟨256 * x + y, ·⟩) = (rdR k rest).map (fun L' => (⟨256 * x + y, L ++ L'⟩ : Stt)) ∧
      St (All w) [] w w10 [.blk b Ty_api_Status [.int .i64 (256 * x + y), .slice ma L.length mc], .blk b1 Ty_api_Errno [.int .i64 0], rd b2 a c rest, .els encR Ty_api_Range 3 ma mc L] fun w => SlR (IntC .u8) 1 w b_a (x :: y :: (m : Int) :: r2)),
      ⟨m, _, _, r2, [], none, 0, rfl, by omega, s2, c2, hb2, by simp; omega, by simp, H9.imp fun _ h => h.2.1⟩, ?_⟩ --! I r4
    clear H9
    rintro _ n w10 ⟨k, a, c, rest, L, ma, mc, rfl, hk, hsr, hcr, hbr, hLk, hrd2, H10⟩
    rw [hrd2] at hrd
    have H10' := H10.hold (slr_held hsr)
    refine bsplit_dec (fun cc => ?_) (fun cc => ?_)
    · obtain ⟨k, rfl⟩ : ∃ j, k = j + 1 := ⟨k - 1, by omega⟩
      refine dTake H10' (i := 2) rfl (fun _ h => h.1) hbr hcr 2 (by omega) (fun h w' H' => none_ (by
        rw [hrd]
        rcases rest with _ | ⟨x, _ | ⟨y, r⟩⟩
        · rfl
        · rfl
        · (simp only [List.length_cons] at h; omega)) H' rfl rfl) fun h w11 H11 => ?_
      clear H10 H10'
      obtain ⟨p, q, r3, rfl⟩ := take2 (show ¬ rest.length < 2 by omega)
      obtain ⟨hp, hq, hb3⟩ := bytes2 hbr
      simp only [List.take_succ_cons, List.take_zero, List.drop_succ_cons, List.drop_zero, getN2] at H11 ⊢
      have s3 : SlR (IntC .u8) 1 w (slAddr c 2 1 a) r3 := by have := hsr.tail (l := 2) hcr; simpa using this
      have c3 : r3.length ≤ c - 2 := by simp only [List.length_cons] at hcr; omega
      obtain ⟨v, hv⟩ : ∃ v, v = 256 * p + q := ⟨_, rfl⟩
      have hvr : 0 ≤ v ∧ v < 65536 := by omega
      have hstep : rdR (k + 1) (p :: q :: r3) = if v % 16 = 1 then rdX k v r3 else (rdR k r3).map (⟨v / 16, 0, 0⟩ :: ·) := by rw [hv, rdR_step]
      rw [← hv]
      refine kFdiv ?_
      have e16 : v / 2 ^ 4 = v / 16 := rfl
      rw [e16]
      refine H11.alloc ?_; clear H11; intro b3 w12 H12
      refine H12.store (i := 4) rfl (by rfl) (by rfl) ?_; clear H12; intro w13 H13
      refine kLet_intro fun x1 hx1 => ?_
      have hx1 : x1 = v % 16 := by rw [hx1]; exact bAnd_i64 4 (by omega) (by omega) (by decide)
      refine bsplit_dec (fun c5 => ?_) (fun c5 => ?_)
      · rw [if_pos (by omega)] at hstep
        have H13' := H13.hold (slr_held s3)
        refine dTake H13' (i := 2) rfl (fun _ h => h.1) hb3 c3 2 (by omega) (fun h w' H' => none_ (by
          rw [hrd, hstep]
          rcases r3 with _ | ⟨e, _ | ⟨f, r⟩⟩
          · rfl
          · rfl
          · (simp only [List.length_cons] at h; omega)) H' rfl rfl) fun h w14 H14 => ?_
        clear H13 H13'
        obtain ⟨e, f, r4, rfl⟩ := take2 (show ¬ r3.length < 2 by omega)
        obtain ⟨he, hf, hb4⟩ := bytes2 hb3
        simp only [List.take_succ_cons, List.take_zero, List.drop_succ_cons, List.drop_zero, getN2] at H14 ⊢
        have s4 : SlR (IntC .u8) 1 w (slAddr (c - 2) 2 1 (slAddr c 2 1 a)) r4 := by have := s3.tail (l := 2) c3; simpa using this
        have c4 : r4.length ≤ c - 2 - 2 := by simp only [List.length_cons] at c3; omega
        have H14' := H14.hold (slr_held s4)
        refine dTake H14' (i := 2) rfl (fun _ h => h.1) hb4 c4 2 (by omega) (fun h w' H' => none_ (by
          rw [hrd, hstep]
          rcases r4 with _ | ⟨g, _ | ⟨h', r⟩⟩
          · rfl
          · rfl
          · (simp only [List.length_cons] at h; omega)) H' rfl rfl) fun h w15 H15 => ?_
        clear H14 H14'
        obtain ⟨g, i, r5, rfl⟩ := take2 (show ¬ r4.length < 2 by omega)
        obtain ⟨hg, hi, hb5⟩ := bytes2 hb4
        simp only [List.take_succ_cons, List.take_zero, List.drop_succ_cons, List.drop_zero, getN2] at H15 ⊢
        have s5 : SlR (IntC .u8) 1 w (slAddr (c - 2 - 2) 2 1 (slAddr (c - 2) 2 1 (slAddr c 2 1 a))) r5 := by have := s4.tail (l := 2) c4; simpa using this
        have c5 : r5.length ≤ c - 2 - 2 - 2 := by simp only [List.length_cons] at c4; omega
        refine H15.set (i := 4) rfl (by simp) ?_; clear H15; intro w16 H16
        refine H16.set (i := 4) rfl (by simp) ?_; clear H16; intro w17 H17
        refine H17.ldS (i := 0) rfl rfl ?_
        refine ⟨_, _, _, H17.cells (i := 4) rfl, ?_⟩
        refine H17.alloc ?_; clear H17; intro b4 w18 H18
        refine H18.appEB encR_ok (i := 3) (j := 5) rfl [⟨v / 16, 256 * e + f, 256 * g + i⟩] rfl sl_Ty_S_api_Range rfl (by simp; omega) (by simp; omega) ?_; intro x_a1 x_c1 w19 H19
        refine H19.set (i := 0) rfl (by simp) ?_; clear H19; intro w20 H20
        refine kW_i64 (by omega) ?_ -- n - (1 : Int)
        refine ⟨⟨k, _, _, r5, L ++ [⟨v / 16, 256 * e + f, 256 * g + i⟩], x_a1, x_c1, by omega, by omega, s5, c5, hb5, by simp; omega, ?_, (H20.sub (fun i => i) ?_ (fun _ _ _ _ h => h)).imp fun _ h => by simp_all⟩, by omega⟩
        · rw [hrd2, hstep]; simp [rdX, Function.comp_def]
        · rintro (_ | _ | _ | _ | _) r h <;> first | exact h | cases h
      · rw [if_neg (by omega)] at hstep
        refine H13.ldS (i := 0) rfl rfl ?_
        refine ⟨_, _, _, H13.cells (i := 4) rfl, ?_⟩
        refine H13.alloc ?_; clear H13; intro b5 w21 H21
        refine H21.appEB encR_ok (i := 3) (j := 5) rfl [⟨v / 16, 0, 0⟩] rfl sl_Ty_S_api_Range rfl (by simp; omega) (by simp; omega) ?_; intro x_a3 x_c3 w22 H22
        refine H22.set (i := 0) rfl (by simp) ?_; clear H22; intro w23 H23
        refine kW_i64 (by omega) ?_ -- n - (1 : Int)
        refine ⟨⟨k, _, _, r3, L ++ [⟨v / 16, 0, 0⟩], x_a3, x_c3, by omega, by omega, s3, c3, hb3, by simp; omega, ?_, (H23.sub (fun i => i) ?_ (fun _ _ _ _ h => h)).imp fun _ h => by simp_all⟩, by omega⟩
        · rw [hrd2, hstep]; simp [Function.comp_def]
        · rintro (_ | _ | _ | _ | _) r h <;> first | exact h | cases h
    · obtain rfl : k = 0 := by omega
      have hrd3 : rdS (x :: y :: (m : Int) :: r2) = some ⟨256 * x + y, L⟩ := by rw [hrd]; simp [rdR]
      rw [hrd3] at e0
      simp only at e0
      obtain ⟨zs, hzs⟩ : ∃ zs, zs = x :: y :: (m : Int) :: r2 := ⟨_, rfl⟩
      rw [← hzs] at e0 hb hl hc H10
      refine ⟨_, _, _, _, H10.cells (i := 0) rfl, ?_⟩
      have hse := H10.slE encR_ok (i := 3) rfl
      have hmc := H10.capE (i := 3) rfl
      refine (status_Encode_ct hse (by omega)).mono ?_
      have bad : ∀ {w' : World} {R : List Res} {P : World → Prop} {A0 : Nat → Prop} {u e : Int} {ma : Option Addr} {ml mc : Nat}, ¬ (okS bits ⟨256 * x + y, L⟩ ∧ bytesS ⟨256 * x + y, L⟩ = zs) → St A0 [] w w' (.blk b Ty_api_Status [.int .i64 u, .slice ma ml mc] :: .blk b1 Ty_api_Errno [.int .i64 e] :: R) P →
          sxStore w' ⟨b, 0, none⟩ 0 [(.int .i64 (0 : Int)), (.slice none 0 0)] fun w25 => kSet w25 ⟨b1, 0, none⟩ (.int .i64 (4 : Int)) fun w26 => L_status_Decode b b1 (fun v w' => RetS w (decS bits zs).1 (decS bits zs).2 (.returned v) w') .returning w26 := fun h H => by
        rw [e0, if_neg h]
        refine H.store (i := 0) rfl (by rfl) (by rfl) fun w25 H25 => ?_
        refine H25.set (i := 1) rfl (by simp) fun w26 H26 => ?_
        exact leave_ret (s := .zero) H26 rfl rfl ⟨Nat.zero_le _, ((St.nil w).pass H26.fin.below).imp fun _ _ => .inl rfl⟩
      rw [← hzs]
      by_cases hok : okS bits ⟨256 * x + y, L⟩
      · have ee : encS bits ⟨256 * x + y, L⟩ = (bytesS ⟨256 * x + y, L⟩, 0) := if_pos hok
        rw [ee]
        rintro _ w24 ⟨ra, rc, hrc, rfl, K⟩; have H24 := H10.callF K; clear K H10 H10'
        refine .inl ⟨_, _, _, _, rfl, ?_⟩
        refine bsplit_nd (fun c4 => absurd rfl c4) (fun _ => ?_)
        refine (bytes_Equal_ct H24.get.1 H24.get.2 (bytes_S _) hb).mono ?_
        rintro _ w29 ⟨rfl, hb29⟩; have H29 := H24.pass hb29; clear H24
        refine .inl ⟨_, rfl, ?_⟩
        refine bsplit_nd (fun c3 => ?_) (fun c3 => ?_)
        · exact bad (fun h => c3 h.2) H29
        · rw [e0, if_pos ⟨hok, c3⟩]
          refine ⟨_, _, _, _, H29.cells (i := 0) rfl, ?_⟩
          refine H29.store (i := 0) rfl (by rfl) (by rfl) fun w32 H32 => ?_
          refine H32.set (i := 1) rfl (by simp) fun w33 H33 => ?_
          exact leave_ret (s := ⟨256 * x + y, L⟩) H33 rfl rfl ⟨hmc, (H33.freshRow (i := 3) rfl).imp fun _ h => els_sl encR_ok h⟩
      · have ee : encS bits ⟨256 * x + y, L⟩ = ([], 1) := if_neg hok
        rw [ee]
        rintro _ w24 ⟨ra, rc, hrc, rfl, K⟩; have H24 := H10.callF K; clear K H10 H10'
        refine .inl ⟨_, _, _, _, rfl, ?_⟩
        refine bsplit_nd (fun _ => ?_) (fun c4 => by cases c4)
        exact bad (fun h => hok h.1) H24
end
end Go.Proofs.Ytdafapcckimefaa
