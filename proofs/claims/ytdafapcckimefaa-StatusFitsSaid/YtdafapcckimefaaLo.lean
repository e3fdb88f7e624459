import Derived.Test.YtdafapcckimefaaLm
/- The dice's odd ranges. -/
namespace Go.Proofs.Ytdafapcckimefaa
open Go.Sx Go.RowKit
def R64 (x : Rg) : Prop := (-9223372036854775808 ≤ x.sn ∧ x.sn ≤ 9223372036854775807) ∧ (-9223372036854775808 ≤ x.f ∧ x.f ≤ 9223372036854775807) ∧ (-9223372036854775808 ≤ x.t ∧ x.t ≤ 9223372036854775807)
theorem wrap64 (e : Int) : -9223372036854775808 ≤ IntKind.wrap .i64 e ∧ IntKind.wrap .i64 e ≤ 9223372036854775807 := by
  have h1 := Int.emod_nonneg e (show (18446744073709551616 : Int) ≠ 0 by decide)
  have h2 := Int.emod_lt_of_pos e (show (0 : Int) < 18446744073709551616 by decide)
  have e0 : IntKind.wrap .i64 e = if e % 18446744073709551616 ≥ 9223372036854775808 then e % 18446744073709551616 - 18446744073709551616 else e % 18446744073709551616 := by
    unfold IntKind.wrap
    by_cases h : e % 18446744073709551616 ≥ 9223372036854775808
    · rw [if_pos h]; exact if_pos (decide_eq_true h)
    · rw [if_neg h]; exact if_neg (fun h' => h (of_decide_eq_true h'))
  rw [e0]
  split <;> omega
theorem mem_setE {α : Type} {p : α → Prop} {l : List α} {k : Nat} {x : α} (h : ∀ y ∈ l, p y) (hx : p x) : ∀ y ∈ l.set k x, p y := fun y hy => by
  rcases List.mem_or_eq_of_mem_set hy with h' | h'
  · exact h y h'
  · rw [h']; exact hx
section
variable {g : Nat} {a : Option Addr} {c : Nat} {ts : List Int} {p : Nat} {w : World} {A : Nat → Prop} {P : World → Prop} {l_a : Option Addr} {l : List Rg} {l_c : Nat}
theorem made_OddRange_ct (hP : Held A w P) (hts : Rolls a ts P) (hs : ∀ w, P w → SlR (CE encR) 3 w l_a l) (hll : l.length ≤ 1000000) (hB : (dice g a c ts p).ok w) (hn : ∀ b, (dice g a c ts p).at = some b → ¬ A b) (hp : p ≤ ts.length) :
    Calls Try.prog N_made_Dice_OddRange #[(.pointer (some ⟨g, 0, none⟩)), (.slice l_a l.length l_c)] w fun e w' => ∃ ra rc L p', e = .returned (.slice ra L.length rc) ∧ L.length ≤ l.length + 1 ∧ ((∀ x ∈ l, R64 x) → ∀ x ∈ L, R64 x) ∧ p' ≤ ts.length ∧
      St A [g] w w' [dice g a c ts p', .els encR Ty_api_Range 3 ra rc L] P := by
  apply F_made_Dice_OddRange_ok
  unfold F_made_Dice_OddRange
  have H : St A [g] w w [dice g a c ts p] P := St.startM hP hB hn
  have H := H.nilE encR Ty_api_Range 3
  refine H.appE encR_ok (i := 1) rfl sl_Ty_S_api_Range (hs _ H.get) (by simp; omega) (by simp; omega) ?_; intro x_a x_c w1 H1 --! append (.slice none 0 0) (.slice l_a l_l l_c)
  clear H
  simp only [List.nil_append] at H1 ⊢
  refine bsplit_dec (fun c3 => ?_) (fun c3 => ?_) --  (decide ((x_l : Int) = (0 : Int)))
  · refine dNext H1 (i := 0) rfl hts hp (by omega) fun r p1 w2 _ hr hp1 H2 => ?_
    have hr := hr (by omega)
    refine H2.alloc ?_; clear H2; intro b w3 H3
    have H3 := H3.litE encR_ok (i := 2) [⟨0, 3, r⟩] rfl (by simp [maxLen])
    refine ⟨_, _, [⟨0, 3, r⟩], p1, rfl, by simp, fun _ x hx => ?_, hp1, H3.sub (fun i => 2 * i) ?_ (fun _ _ _ _ h => by omega)⟩
    · simp at hx; subst hx; exact ⟨by simp only; omega, by simp only; omega, by simp only; omega⟩
    · rintro (_ | _ | _) r h <;> first | exact h | cases h
  · refine dNext H1 (i := 0) rfl hts hp (by omega) fun r1 p1 w4 _ hr1 hp1 H4 => ?_
    have hr1 := hr1 (by omega)
    obtain ⟨k, rfl⟩ := natOf hr1.1
    have hk : k < l.length := by omega
    refine dNext H4 (i := 0) rfl hts hp1 (by omega) fun r2 p2 w5 _ hr2 hp2 H5 => ?_
    clear H1 H4
    obtain ⟨gb, rfl, -, -⟩ := H5.rowSome (i := 1) rfl (by omega)
    have at0 : Addr.add ⟨gb, 0, none⟩ (k * 3) = ⟨gb, k * 3, none⟩ := by rw [add_mk, Nat.zero_add]
    refine kLet_in ?_
    refine bsplit_dec (fun c2 => ?_) (fun c2 => ?_) --  (decide (r2 = (0 : Int)))
    · refine H5.drew ?_; clear H5; intro w6 H6
      refine ⟨fun x => x < w6.heap.size ∧ x ∉ [g], ?_⟩
      refine kIx_at ⟨by omega, by omega⟩ ?_
      rw [Int.toNat_natCast, at0]
      refine ⟨⟨H6.lt (i := 1) rfl rfl, nin1 (H6.ne (i := 1) (j := 0) rfl rfl (by decide) rfl rfl)⟩, ?_⟩ --!
      refine ⟨l[k].sn, H6.cellEl encR_ok (i := 1) (k := k) (j := 0) rfl hk (by decide) rfl, ?_⟩
      refine dNext H6 (i := 0) rfl hts hp2 (by omega) fun r3 p3 w7 f7 hr3 hp3 H7 => ?_
      have hr3 := hr3 (by omega)
      refine ⟨f7.keeps, ?_⟩
      refine kW_i64 (by omega) ?_ -- r3 - (1 : Int)
      refine kW_intro fun y hy => ?_
      refine kIx_at ⟨by omega, by omega⟩ ?_
      rw [at0]
      refine H7.setEl encR_ok (i := 1) (k := k) (j := 0) rfl hk (by decide) ⟨y, l[k].f, l[k].t⟩ rfl fun w8 _ H8 => ?_
      refine ⟨_, _, l.set k ⟨y, l[k].f, l[k].t⟩, p3, by simp, by simp, fun h => mem_setE h ?_, hp3, H8⟩
      have := h l[k] (List.getElem_mem hk)
      exact ⟨by rw [hy]; exact wrap64 _, this.2.1, this.2.2⟩
    · refine kLet_in ?_
      refine bsplit_dec (fun c1 => ?_) (fun c1 => ?_) --  (decide (r2 = (1 : Int)))
      · refine H5.drew ?_; clear H5; intro w9 H9
        refine ⟨fun x => x < w9.heap.size ∧ x ∉ [g], ?_⟩
        refine kIx_at ⟨by omega, by omega⟩ ?_
        rw [Int.toNat_natCast, at0, add_mk]
        refine ⟨⟨H9.lt (i := 1) rfl rfl, nin1 (H9.ne (i := 1) (j := 0) rfl rfl (by decide) rfl rfl)⟩, ?_⟩ --!
        refine ⟨l[k].f, H9.cellEl encR_ok (i := 1) (k := k) (j := 1) rfl hk (by decide) rfl, ?_⟩
        refine dNext H9 (i := 0) rfl hts hp2 (by omega) fun r4 p3 w10 f10 hr4 hp3 H10 => ?_
        have hr4 := hr4 (by omega)
        refine ⟨f10.keeps, ?_⟩
        refine kW_i64 (by omega) ?_ -- r4 - (2 : Int)
        refine kW_intro fun y hy => ?_
        refine kIx_at ⟨by omega, by omega⟩ ?_
        rw [at0, add_mk]
        refine H10.setEl encR_ok (i := 1) (k := k) (j := 1) rfl hk (by decide) ⟨l[k].sn, y, l[k].t⟩ rfl fun w8 _ H8 => ?_
        refine ⟨_, _, l.set k ⟨l[k].sn, y, l[k].t⟩, p3, by simp, by simp, fun h => mem_setE h ?_, hp3, H8⟩
        have := h l[k] (List.getElem_mem hk)
        exact ⟨this.1, by rw [hy]; exact wrap64 _, this.2.2⟩
      · refine kLet_in ?_
        refine bsplit_dec (fun c0 => ?_) (fun c0 => ?_) --  (decide (r2 = (2 : Int)))
        · refine H5.drew ?_; clear H5; intro w12 H12
          refine ⟨fun x => x < w12.heap.size ∧ x ∉ [g], ?_⟩
          have f12 := Fr.refl [g] w12
          refine kIx_at ⟨by omega, by omega⟩ ?_
          rw [Int.toNat_natCast, at0, add_mk]
          refine ⟨⟨H12.lt (i := 1) rfl rfl, nin1 (H12.ne (i := 1) (j := 0) rfl rfl (by decide) rfl rfl)⟩, ?_⟩ --!
          refine ⟨l[k].f, H12.cellEl encR_ok (i := 1) (k := k) (j := 1) rfl hk (by decide) rfl, ?_⟩
          have fin : ∀ {w3 : World} {p3 : Nat} {r : Int} {b : Nat} {K : Option Addr}, (0 ≤ r ∧ r < 4) → p3 ≤ ts.length → St A [g] w w3 [dice g a c ts p3, .els encR Ty_api_Range 3 (some ⟨gb, 0, none⟩) x_c l, .blk b Ty_int [.int .i64 0, .int .i64 65535, .int .i64 65536, .int .i64 l[k].f]] P → Fr [g] w12 w3 →
              kIx (some ⟨b, 0, none⟩) 4 r fun b10 => kLd w3 (b10.add (r.toNat * 1)) .i64 fun x11 => KeepsB (fun x => x < w12.heap.size ∧ x ∉ [g]) w12 w3 ∧ kIx (some ⟨gb, 0, none⟩) l.length (k : Int) fun b11 => kSet w3 ((b11.add ((k : Int).toNat * 3)).add 2) (.int .i64 x11) fun w18 =>
                ∃ ra rc L p', Ending.returned (.slice (some ⟨gb, 0, none⟩) l.length x_c) = .returned (.slice ra L.length rc) ∧ L.length ≤ l.length + 1 ∧ ((∀ x ∈ l, R64 x) → ∀ x ∈ L, R64 x) ∧ p' ≤ ts.length ∧ St A [g] w w18 [dice g a c ts p', .els encR Ty_api_Range 3 ra rc L] P := by
            intro w3 p3 r b K hr hp3 H3 f3
            obtain ⟨q, rfl⟩ := natOf hr.1
            refine kIx_at ⟨by omega, by omega⟩ ?_
            rw [Int.toNat_natCast, Nat.mul_one, add_mk, Nat.zero_add]
            have hv2 : ∃ x : Int, ([Value.int .i64 0, .int .i64 65535, .int .i64 65536, .int .i64 l[k].f] : List Value)[q]? = some (.int .i64 x) ∧ ((∀ x ∈ l, R64 x) → -9223372036854775808 ≤ x ∧ x ≤ 9223372036854775807) := by
              rcases (show q = 0 ∨ q = 1 ∨ q = 2 ∨ q = 3 by omega) with rfl | rfl | rfl | rfl
              · exact ⟨0, rfl, by omega⟩
              · exact ⟨65535, rfl, by omega⟩
              · exact ⟨65536, rfl, by omega⟩
              · exact ⟨_, rfl, fun h => (h l[k] (List.getElem_mem hk)).2.1⟩
            obtain ⟨x, hx, hx2⟩ := hv2
            refine H3.ld (i := 2) rfl hx ?_
            refine ⟨f3.keeps, ?_⟩
            refine kIx_at ⟨by omega, by omega⟩ ?_
            rw [Int.toNat_natCast, at0, add_mk]
            refine H3.setEl encR_ok (i := 1) (k := k) (j := 2) rfl hk (by decide) ⟨l[k].sn, l[k].f, x⟩ rfl fun w8 _ H8 => ?_
            refine ⟨_, _, l.set k ⟨l[k].sn, l[k].f, x⟩, p3, by simp, by simp, fun h => mem_setE h ?_, hp3, H8.dropLast⟩
            have := h l[k] (List.getElem_mem hk)
            exact ⟨this.1, this.2.1, hx2 h⟩
          refine ⟨?_, ?_, trivial⟩ --! fork
          · refine H12.allocB ?_; intro b6 w13 hb13 H13
            have f13 := f12.tr (hb13.fr []) (by simp)
            refine ⟨f13.keeps, ?_⟩
            refine dNext H13 (i := 0) rfl hts hp2 (by omega) fun r5 p3 w14 f14 hr5 hp3 H14 => ?_
            have f14 := f13.tr f14 (by simp)
            refine ⟨f14.keeps, ?_⟩
            exact fin (K := none) (hr5 (by omega)) hp3 H14 f14
          · refine dNext H12 (i := 0) rfl hts hp2 (by omega) fun r6 p3 w16 f16 hr6 hp3 H16 => ?_
            have f16 := f12.tr f16 (by simp)
            refine ⟨f16.keeps, ?_⟩
            refine H16.allocB ?_; intro b9 w17 hb17 H17
            have f17 := f16.tr (hb17.fr []) (by simp)
            refine ⟨f17.keeps, ?_⟩
            exact fin (K := none) (hr6 (by omega)) hp3 H17 f17
        · refine kIx_at ⟨by omega, by omega⟩ ?_
          rw [Int.toNat_natCast, at0]
          refine ⟨_, _, _, H5.cellsEl encR_ok (i := 1) rfl hk, ?_⟩ --! load
          refine H5.alloc ?_; clear H5; intro b13 w19 H19
          refine H19.appEB encR_ok (i := 1) (j := 2) rfl [l[k]] rfl sl_Ty_S_api_Range rfl (by simp; omega) (by simp; omega) ?_; intro x_a1 x_c1 w20 H20 --! append (.slice x_a x_l x_c) (.slice (some ⟨b13, 0, none⟩) 1 1)
          refine ⟨_, _, _, p2, rfl, by simp, fun h x hx => ?_, hp2, H20.dropLast⟩ --! (.slice x_a1 x_l1 x_c1)
          rcases List.mem_append.1 hx with hx | hx
          · exact h x hx
          · simp at hx; subst hx; exact h _ (List.getElem_mem hk)
end
section
variable {A0 : Nat → Prop} {M : List Nat} {w0 w : World} {R : List Res} {P : World → Prop} {i g : Nat} {a : Option Addr} {c : Nat} {ts : List Int} {p : Nat}
theorem dRanges (H : St A0 M w0 w R P) (hi : R[i]? = some (dice g a c ts p)) (hts : Rolls a ts P) (hp : p ≤ ts.length) {sn most : Int} (hm : 0 ≤ most ∧ most ≤ 6) {K : Option Addr → Nat → Nat → World → Prop}
    (h : ∀ ra rc L p' w', (L.length : Int) ≤ most → (∀ x ∈ L, x.sn = sn) → normB (-1) L = true → (∀ x ∈ L, x.t ≤ 62) → p' ≤ ts.length → St A0 M w0 w' (R.set i (dice g a c ts p') ++ [.els encR Ty_api_Range 3 ra rc L]) P → K ra L.length rc w') :
    Calls Try.prog N_made_Dice_Ranges #[(.pointer (some ⟨g, 0, none⟩)), (.int .i64 sn), (.int .i64 most)] w fun e w' => ∃ (ra : Option Addr) (rl rc : Nat), e = .returned (.slice ra rl rc) ∧ K ra rl rc w' := by
  obtain ⟨A, hA, hn', hr, hc⟩ := H.callM hi
  refine (made_Ranges_ct hA hts hr hn' hp hm).mono ?_
  rintro _ w2 ⟨ra, rc, L, p', rfl, h1, h0, h2, h3, hp', S⟩
  exact ⟨_, _, _, rfl, h _ _ L p' w2 h1 h0 h2 h3 hp' ((hc S).imp fun _ h => h.2)⟩
theorem dOddRange (H : St A0 M w0 w R P) (hi : R[i]? = some (dice g a c ts p)) (hts : Rolls a ts P) (hp : p ≤ ts.length) {l_a : Option Addr} {l_c : Nat} {l : List Rg} (hs : ∀ w, P w → SlR (CE encR) 3 w l_a l) (hl : l.length ≤ 1000000) {K : Option Addr → Nat → Nat → World → Prop}
    (h : ∀ ra rc L p' w', L.length ≤ l.length + 1 → ((∀ x ∈ l, R64 x) → ∀ x ∈ L, R64 x) → p' ≤ ts.length → St A0 M w0 w' (R.set i (dice g a c ts p') ++ [.els encR Ty_api_Range 3 ra rc L]) P → K ra L.length rc w') :
    Calls Try.prog N_made_Dice_OddRange #[(.pointer (some ⟨g, 0, none⟩)), (.slice l_a l.length l_c)] w fun e w' => ∃ (ra : Option Addr) (rl rc : Nat), e = .returned (.slice ra rl rc) ∧ K ra rl rc w' := by
  obtain ⟨A, hA, hn', hr, hc⟩ := H.callM hi
  refine (made_OddRange_ct hA hts hs hl hr hn' hp).mono ?_
  rintro _ w2 ⟨ra, rc, L, p', rfl, h1, h2, hp', S⟩
  exact ⟨_, _, _, rfl, h _ _ L p' w2 h1 h2 hp' ((hc S).imp fun _ h => h.2)⟩
end
end Go.Proofs.Ytdafapcckimefaa
