import Derived.Test.YtdafapcckimefaaW19h
import Derived.Test.YtdafapcckimefaaP19c
import Derived.Test.YtdafapcckimefaaLo
namespace Go.Sx
def lastO : Option Rg → List Rg → Option Rg
  | p, [] => p
  | _, x :: L => lastO (some x) L
theorem chain_app {b u : Int} (M : List Rg) : ∀ (L : List Rg) (p : Option Rg), chainB b u p (L ++ M) = (chainB b u p L && chainB b u (lastO p L) M)
  | [], p => by simp [chainB, lastO]
  | x :: L, p => by simp only [List.cons_append, chainB, lastO, chain_app M L, Bool.and_assoc]
theorem lastO_mem : ∀ (L : List Rg) (p : Option Rg) (q : Rg), lastO p L = some q → q ∈ L ∨ p = some q
  | [], p, q, h => .inr h
  | x :: L, p, q, h => by
    rcases lastO_mem L (some x) q h with h | h
    · exact .inl (by simp [h])
    · injection h with h; subst h; exact .inl (by simp)
theorem chain_more {b u d : Int} {L M : List Rg} (h : chainB b u none L = true) (hd : ∀ q ∈ L, way b q.sn u > d) (hm : chainB b u none M = true) (hw : ∀ r ∈ M, way b r.sn u = d) : chainB b u none (L ++ M) = true := by
  rw [chain_app, h, Bool.true_and]
  cases M with
  | nil => rfl
  | cons r M =>
    simp only [chainB, Bool.and_eq_true, decide_eq_true_iff] at hm ⊢
    refine ⟨⟨hm.1.1, ?_⟩, hm.2⟩
    cases hl : lastO none L with
    | none => trivial
    | some q =>
      rcases lastO_mem L none q hl with h1 | h1
      · have := hd q h1
        have := hw r (by simp)
        exact ⟨by omega, fun e => by omega⟩
      · cases h1
theorem chain_norm {b u sn : Int} (hs : 0 ≤ sn ∧ sn < 2 ^ b.toNat) (hw : 1 ≤ way b sn u ∧ way b sn u ≤ 2 ^ (b - 1).toNat) : ∀ (M : List Rg) (p : Option Rg) (t : Int), normB t M = true → -1 ≤ t → (∀ r ∈ M, r.sn = sn ∧ r.t ≤ 65535) →
    (match p with | none => True | some q => q.sn = sn ∧ ¬ whole q ∧ q.t = t) → chainB b u p M = true
  | [], _, _, _, _, _, _ => rfl
  | r :: M, p, t, hn, ht, hr, hp => by
    simp only [normB, Bool.and_eq_true, decide_eq_true_iff] at hn
    obtain ⟨hr1, hr2⟩ := hr r (by simp)
    have hnw : ¬ whole r := fun h => by have := h.1; have := h.2; omega
    simp only [chainB, Bool.and_eq_true, decide_eq_true_iff]
    refine ⟨⟨⟨by rw [hr1]; exact hs, by rw [hr1]; exact hw, .inr ⟨by omega, by omega, hr2⟩⟩, ?_⟩, chain_norm hs hw M (some r) r.t hn.2 (by omega) (fun x hx => hr x (by simp [hx])) ⟨hr1, hnw, rfl⟩⟩
    cases p with
    | none => trivial
    | some q =>
      obtain ⟨h1, h2, h3⟩ := hp
      exact ⟨by rw [hr1, h1]; exact Int.le_refl _, fun _ h => by rcases h with h | h | h; exact h2 h; exact hnw h; omega⟩
theorem way_back {b u d : Int} (h : 0 ≤ d ∧ d < 2 ^ b.toNat) : way b ((u - d) % 2 ^ b.toNat) u = d := by
  unfold way
  have : (u - (u - d) % 2 ^ b.toNat) % 2 ^ b.toNat = (u - (u - d)) % 2 ^ b.toNat := by rw [Int.sub_emod, Int.emod_emod, ← Int.sub_emod]
  rw [this, show u - (u - d) = d by omega]
  exact Int.emod_eq_of_lt h.1 h.2
end Go.Sx
namespace Go.Proofs.Ytdafapcckimefaa
open Go.Sx Go.RowKit
section
variable {g : Nat} {a : Option Addr} {c : Nat} {ts : List Int} {p : Nat} {w : World} {A : Nat → Prop} {P : World → Prop} {bits : Int}
theorem made_Status_ct (hP : Held A w P) (hts : Rolls a ts P) (hB : (dice g a c ts p).ok w) (hn : ∀ b, (dice g a c ts p).at = some b → ¬ A b) (hp : p ≤ ts.length) (hb : bitsOk bits) :
    Calls Try.prog N_made_Dice_Status #[(.pointer (some ⟨g, 0, none⟩)), (.int .i64 bits)] w fun e w' => ∃ ra rc s p', e = .returned (.agg #[.int .i64 s.upto, .slice ra s.miss.length rc]) ∧ okS bits s ∧ p' ≤ ts.length ∧
      St A [g] w w' [dice g a c ts p', .els encR Ty_api_Range 3 ra rc s.miss] P := by
  apply F_made_Dice_Status_ok
  unfold F_made_Dice_Status
  have H : St A [g] w w [dice g a c ts p] P := St.startM hP hB hn
  have hb5 := hb.1; have hb9 := hb.2
  have hpw := pow_bits1 hb
  refine H.alloc ?_; clear H; intro b w1 H1
  refine kW_u64 (by omega) ?_ -- bits
  refine ⟨by omega, ?_⟩
  refine kShl1 (by omega) ?_
  refine dNext H1 (i := 0) rfl hts hp (by omega) fun u p1 w2 _ hu hp1 H2 => ?_
  have hu := hu (by omega)
  refine H2.alloc ?_; clear H2; intro b1 w3 H3
  refine H3.store (i := 2) rfl (by rfl) (by rfl) ?_; clear H3; intro w4 H4
  obtain ⟨hf, hhf⟩ : ∃ hf, hf = (2 : Int) ^ (bits - 1).toNat := ⟨_, rfl⟩
  rw [← hhf] at hpw
  have e2 : Int.tdiv (2 ^ bits.toNat) 2 = hf := by rw [hpw.1, Int.tdiv_eq_ediv_of_nonneg (by omega)]; omega
  rw [e2]
  refine kW_i64 (by omega) ?_
  refine kW_i64 (by omega) ?_
  refine dNext H4 (i := 0) rfl hts hp1 (by omega) fun r1 p2 w5 _ hr1 hp2 H5 => ?_
  have hr1 := hr1 (by omega)
  refine kW_i64 (by omega) ?_
  have H5 := H5.nilE encR Ty_api_Range 3
  refine ⟨fun at1 => ((at1 + 5).toNat, fun w6 => ∃ (L : List Rg) (ma : Option Addr) (mc p3 : Nat), at1 ≤ hf ∧ -4 ≤ at1 ∧ chainB bits u none L = true ∧ (∀ q ∈ L, way bits q.sn u > at1) ∧ (L.length : Int) ≤ 3 * (hf - at1) ∧ p3 ≤ ts.length ∧
    St A [g] w w6 [dice g a c ts p3, .blk b Ty_api_Status [(.int .i64 (0 : Int)), (.slice none 0 0)], .blk b1 Ty_api_Status [(.int .i64 u), (.slice ma L.length mc)], .els encR Ty_api_Range 3 ma mc L] P), ⟨[], none, 0, p2, by omega, by omega, rfl, fun q hq => by simp at hq, by simp; omega, hp2, H5⟩, ?_⟩ --! I
  clear H5
  rintro _ at1 w6 ⟨L, ma, mc, p3, hat, hat0, hch, hgt, hlen, hp3, H6⟩
  refine bsplit_dec (fun c2 => ?_) (fun c2 => ?_) --  (decide (at1 > (0 : Int)))
  · refine H6.ld (i := 2) rfl rfl ?_
    refine kW_i64 (by omega) ?_ -- r - at1
    refine (made_Mod_ct (u - at1) (2 ^ bits.toNat) (by omega)).mono ?_
    rintro _ w7 ⟨rfl, hb7⟩; have H7 := H6.pass hb7; clear H6
    refine ⟨_, rfl, ?_⟩
    have esn : modI (u - at1) (2 ^ bits.toNat) = (u - at1) % 2 ^ bits.toNat := if_neg (by omega)
    obtain ⟨sn, hsn⟩ : ∃ sn, sn = modI (u - at1) (2 ^ bits.toNat) := ⟨_, rfl⟩
    have hsr := modI_range (u - at1) (2 ^ bits.toNat) (by omega)
    have hway : way bits sn u = at1 := by rw [hsn, esn]; exact way_back (by omega)
    rw [← hsn] at hsr ⊢
    refine made_One_ct H7 (i := 0) rfl hts hp3 (by omega) fun v p4 w8 _ hp4 H8 => ?_
    have next : ∀ {w' : World} {R : List Res} {ra : Option Addr} {rc pp : Nat} {M : List Rg} {r4 : Int}, (0 ≤ r4 ∧ r4 < 4) → pp ≤ ts.length → chainB bits u none M = true → (∀ r ∈ M, way bits r.sn u = at1) → M.length ≤ 3 →
        St A [g] w w' (dice g a c ts pp :: .blk b Ty_api_Status [(.int .i64 (0 : Int)), (.slice none 0 0)] :: .blk b1 Ty_api_Status [(.int .i64 u), (.slice ra (L ++ M).length rc)] :: .els encR Ty_api_Range 3 ra rc (L ++ M) :: R) P →
        (∃ (L : List Rg) (ma : Option Addr) (mc p3 : Nat), at1 - (1 + r4) ≤ hf ∧ -4 ≤ at1 - (1 + r4) ∧ chainB bits u none L = true ∧ (∀ q ∈ L, way bits q.sn u > at1 - (1 + r4)) ∧ (L.length : Int) ≤ 3 * (hf - (at1 - (1 + r4))) ∧ p3 ≤ ts.length ∧
          St A [g] w w' [dice g a c ts p3, .blk b Ty_api_Status [(.int .i64 (0 : Int)), (.slice none 0 0)], .blk b1 Ty_api_Status [(.int .i64 u), (.slice ma L.length mc)], .els encR Ty_api_Range 3 ma mc L] P) ∧ (at1 - (1 + r4) + 5).toNat < (at1 + 5).toNat := fun hr hpp hm hw hml H' =>
      ⟨⟨_, _, _, _, by omega, by omega, chain_more hch hgt hm hw, fun q hq => by
        rcases List.mem_append.1 hq with h | h
        · have := hgt q h; omega
        · have := hw q h; omega, by simp; omega, hpp, H'.sub (fun i => i) (by rintro (_ | _ | _ | _ | _) r h <;> first | exact h | cases h) (fun _ _ _ _ h => h)⟩, by omega⟩
    refine bsplit_intro (fun c => ?_) (fun c => ?_) --  r3
    · refine H8.ldS (i := 2) rfl rfl ?_
      refine H8.alloc ?_; clear H8; intro b2 w9 H9
      refine H9.appEB encR_ok (i := 3) (j := 4) rfl [⟨sn, 0, 0⟩] rfl sl_Ty_S_api_Range rfl (by simp; omega) (by simp; omega) ?_; intro x_a1 x_c1 w10 H10 --! append
      refine H10.set (i := 2) rfl (by simp) ?_; clear H10; intro w11 H11
      refine dNext H11 (i := 0) rfl hts hp4 (by omega) fun r4 p5 w12 _ hr4 hp5 H12 => ?_
      have hr4 := hr4 (by omega)
      refine kW_i64 (by omega) ?_ -- (1 : Int) + r4
      refine kW_i64 (by omega) ?_ -- at1 - ((1 : Int) + r4)
      refine next hr4 hp5 ?_ (fun r hr => by simp at hr; subst hr; exact hway) (by simp) H12
      simp only [chainB, Bool.and_true, decide_eq_true_iff]
      exact ⟨⟨hsr, by rw [hway]; omega, .inl ⟨rfl, rfl⟩⟩, trivial⟩
    · refine H8.drew ?_; clear H8; intro w13 H13
      refine ⟨fun x => x = b1, ?_⟩
      refine ⟨rfl, ?_⟩
      refine H13.ldS (i := 2) rfl rfl ?_
      refine dRanges H13 (i := 0) rfl hts hp4 (by omega) fun ra rc M p5 w14 hM1 hM2 hM3 hM4 hp5 H14 => ?_
      refine ⟨keepsBlk H13 H14 (i := 2) (j := 2) rfl rfl, ?_⟩
      refine H14.appE encR_ok (i := 3) rfl sl_Ty_S_api_Range (H14.slE encR_ok (i := 4) rfl) (by omega) (by omega) ?_; intro x_a3 x_c3 w15 H15 --! append
      refine ⟨keepsBlk H13 H15 (i := 2) (j := 2) rfl rfl, ?_⟩ --!
      refine H15.set (i := 2) rfl (by simp) ?_; intro w16 H16
      refine dNext H16 (i := 0) rfl hts hp5 (by omega) fun r5 p6 w17 _ hr5 hp6 H17 => ?_
      have hr5 := hr5 (by omega)
      refine kW_i64 (by omega) ?_ -- (1 : Int) + r5
      refine kW_i64 (by omega) ?_ -- at1 - ((1 : Int) + r5)
      exact next hr5 hp6 (chain_norm hsr (by rw [hway]; omega) M none (-1) hM3 (by omega) (fun r hr => ⟨hM2 r hr, by have := hM4 r hr; omega⟩) trivial) (fun r hr => by rw [hM2 r hr]; exact hway) (by omega) H17
  · refine H6.ldS (i := 2) rfl rfl ?_
    refine bsplit_dec (fun c1 => ?_) (fun c1 => ?_) --  (decide (((0 : Nat) : Int) > (64 : Int)))
    · have hmc := H6.capE (i := 3) rfl
      refine H6.ldS (i := 2) rfl rfl ?_
      refine ⟨⟨by omega, by omega⟩, ?_⟩ -- hi
      have H6 := H6.shrinkE encR_ok (i := 3) rfl 64 (by omega)
      have ea : slAddr mc 0 3 ma = ma := by
        unfold slAddr
        split
        · rfl
        · cases ma <;> simp [add_zero]
      have el : (64 : Int).toNat - 0 = (L.take 64).length := by simp; omega
      rw [ea, el, Nat.sub_zero]
      refine H6.set (i := 2) rfl (by simp) ?_; clear H6; intro w18 H18
      refine ⟨_, _, _, _, H18.cells (i := 2) rfl, ?_⟩
      refine H18.store (i := 1) rfl (by rfl) (by rfl) ?_; clear H18; intro w19 H19
      refine ⟨_, _, _, _, H19.cells (i := 1) rfl, ?_⟩
      have hch2 : chainB bits u none (L.take 64) = true := by
        have e : L.take 64 ++ L.drop 64 = L := List.take_append_drop 64 L
        rw [← e, chain_app, Bool.and_eq_true] at hch
        exact hch.1
      refine ⟨_, _, ⟨u, L.take 64⟩, p3, rfl, ⟨hb, by simp only; omega, by simp; omega, hch2⟩, hp3, H19.sub (fun i => 3 * i) ?_ (fun _ _ _ _ h => by omega)⟩
      rintro (_ | _ | _) r h <;> first | exact h | cases h
    · refine ⟨_, _, _, _, H6.cells (i := 2) rfl, ?_⟩
      refine H6.store (i := 1) rfl (by rfl) (by rfl) ?_; clear H6; intro w20 H20
      refine ⟨_, _, _, _, H20.cells (i := 1) rfl, ?_⟩
      refine ⟨_, _, ⟨u, L⟩, p3, rfl, ⟨hb, by simp only; omega, by simp only; omega, hch⟩, hp3, H20.sub (fun i => 3 * i) ?_ (fun _ _ _ _ h => by omega)⟩
      rintro (_ | _ | _) r h <;> first | exact h | cases h
end
section
variable {A0 : Nat → Prop} {M : List Nat} {w0 w : World} {R : List Res} {P : World → Prop} {i g : Nat} {a : Option Addr} {c : Nat} {ts : List Int} {p : Nat} {bits : Int}
theorem dStatus (H : St A0 M w0 w R P) (hi : R[i]? = some (dice g a c ts p)) (hts : Rolls a ts P) (hp : p ≤ ts.length) (hb : bitsOk bits) {K : Int → Option Addr → Nat → Nat → World → Prop}
    (h : ∀ ra rc s p' w', okS bits s → p' ≤ ts.length → St A0 M w0 w' (R.set i (dice g a c ts p') ++ [.els encR Ty_api_Range 3 ra rc s.miss]) P → K s.upto ra s.miss.length rc w') :
    Calls Try.prog N_made_Dice_Status #[(.pointer (some ⟨g, 0, none⟩)), (.int .i64 bits)] w fun e w' => ∃ (u : Int) (ra : Option Addr) (rl rc : Nat), e = .returned (.agg #[.int .i64 u, .slice ra rl rc]) ∧ K u ra rl rc w' := by
  obtain ⟨A, hA, hn', hr, hc⟩ := H.callM hi
  refine (made_Status_ct hA hts hr hn' hp hb).mono ?_
  rintro _ w2 ⟨ra, rc, s, p', rfl, h1, hp', S⟩
  exact ⟨_, _, _, _, rfl, h _ _ s p' w2 h1 hp' ((hc S).imp fun _ h => h.2)⟩
theorem dSpoil (H : St A0 M w0 w R P) (hi : R[i]? = some (dice g a c ts p)) (hts : Rolls a ts P) (hp : p ≤ ts.length) {b_a : Option Addr} {b_c : Nat} {bs : List Int} (hs : ∀ w, P w → SlR (IntC .u8) 1 w b_a bs) (hb : Bytes bs) (hl : bs.length ≤ 1000000) {K : Option Addr → Nat → Nat → World → Prop}
    (h : ∀ ra rc zs p' w', Bytes zs → zs.length ≤ bs.length + 1 → p' ≤ ts.length → St A0 M w0 w' (R.set i (dice g a c ts p') ++ [.ints Ty_uint8 .u8 ra rc zs]) P → K ra zs.length rc w') :
    Calls Try.prog N_made_Dice_Spoil #[(.pointer (some ⟨g, 0, none⟩)), (.slice b_a bs.length b_c)] w fun e w' => ∃ (ra : Option Addr) (rl rc : Nat), e = .returned (.slice ra rl rc) ∧ K ra rl rc w' := by
  obtain ⟨A, hA, hn', hr, hc⟩ := H.callM hi
  refine (made_Spoil_ct hA hts hr hn' hp (hs _ hA.get) hb hl).mono ?_
  rintro _ w2 ⟨ra, rc, zs, p', rfl, h1, h2, hp', S⟩
  exact ⟨_, _, _, rfl, h _ _ zs p' w2 h1 h2 hp' ((hc S).imp fun _ h => h.2)⟩
end
end Go.Proofs.Ytdafapcckimefaa
