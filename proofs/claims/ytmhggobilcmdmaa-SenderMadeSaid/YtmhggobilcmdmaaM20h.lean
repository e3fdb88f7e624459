import Derived.Test.YtmhggobilcmdmaaEl2
import Derived.ArgAppend
import Derived.Test.YtmhggobilcmdmaaM18
import Derived.Test.YtmhggobilcmdmaaM20c
import Derived.Test.YtmhggobilcmdmaaFxSenderMade
import Derived.Test.YtmhggobilcmdmaaM20b
/- Append to a slice that begins behind the first elements of a row of the call's own. -/
namespace Go.Sx
open Go.RowKit
section
variable {A0 : Nat → Prop} {M : List Nat} {w0 w : World} {R : List Res} {P : World → Prop} {i j g lit : Nat} {t e t0 : TypeId} {sz c bytes : Nat} {z : Value} {Pr : Program} {α : Type} {enc : α → List Value} {all : List α}
theorem St.appDead (H : St A0 M w0 w R P) (hE : Enc enc sz) (hi : R[i]? = some (.els enc e sz (some ⟨g, 0, none⟩) c all)) (n : Nat) (hn : n ≤ all.length) (x : α) (hj : R[j]? = some (.blk lit t0 (enc x))) (hT : SlTy Pr t e sz bytes z) (hlen : all.length ≤ 1000000) (hby : bytes ≤ 1000) {ty : TypeId} {F : Option Addr → Nat → Nat → World → Prop}
    (h : ∀ (a0 : Option Addr) (c0 : Nat) (all' : List α) (n' : Nat) (w' : World), n' ≤ n → n' ≤ all'.length → all'.drop n' = all.drop n ++ [x] → St A0 M w0 w' (R.set i (.els enc e sz a0 c0 all')) P → F (slAddr c0 n' sz a0) (all.length - n + 1) (c0 - n') w') :
    AppP Pr #[t, t] ty #[.slice (slAddr c n sz (some ⟨g, 0, none⟩)) (all.length - n) (c - n), .slice (some ⟨lit, 0, none⟩) 1 1] w F := by
  obtain ⟨inf, hinf, hz, hs, hb⟩ := hT.info
  have hO : Own w 0 e sz (some ⟨g, 0, none⟩) all.length c (all.flatMap enc) := H.ok i _ hi
  have hpos := hT.pos
  have hbm : (all.length + 1) * bytes ≤ 1000001 * 1000 := Nat.mul_le_mul (by omega) hby
  have hbm2 : (all.length - n + 1) * bytes ≤ 1000001 * 1000 := Nat.mul_le_mul (by omega) hby
  obtain ⟨hl, hv | ⟨g', cap, cur, hv, _, hh, hnc, hcm, hcs, ht⟩⟩ := hO
  · cases hv.1
  injection hv with hv1 _ hv3
  injection hv1 with hv1
  injection hv1 with hv1 _ _
  subst hv1; subst hv3
  have hnews : ∀ k u, (enc x)[k]? = some u → w.cell? ((⟨lit, 0, none⟩ : Addr).add k) = some u := fun k u hk => by
    rw [add_mk, Nat.zero_add]; exact H.cell hj hk
  have h1 : ∀ u ∈ enc x, u.oneCell' = true := fun u hu => List.all_eq_true.1 (hE.one x) u hu
  have hxl : (enc x).length = 1 * sz := by rw [hE.len]; omega
  have hfl : (all.flatMap enc).length = all.length * sz := flat_len hE
  by_cases hr : all.length + 1 ≤ c
  · -- there is room
    have hsz : (all.length + 1) * sz ≤ c * sz := Nat.mul_le_mul_right _ hr
    rw [Nat.succ_mul] at hsz
    have hcell : ∀ o, o < c * sz → (w.cell? ⟨g, o, none⟩).isSome = true ∧ w.frozen? ⟨g, o, none⟩ = false := fun o ho => by
      constructor
      · simp [World.cell?, hh, hcs, ho]
      · simp [World.frozen?, hh]
    have run : ∀ k, k ≤ all.length → (Builtin.append_ #[t, t] ty #[.slice (some ⟨g, k * sz, none⟩) (all.length - k) (c - k), .slice (some ⟨lit, 0, none⟩) 1 1]).run Pr w = .ok (.slice (some ⟨g, k * sz, none⟩) (all.length - k + 1) (c - k)) (w.setCells g (all.length * sz) (enc x)) := fun k hk => by
      have e1 : k * sz + (all.length - k) * sz = all.length * sz := by rw [← Nat.add_mul]; congr 1; omega
      have := run_append_room_cells (P := Pr) w t ty e inf hT.ht hinf g (k * sz) (all.length - k) (c - k) ⟨lit, 0, none⟩ 1 1 (enc x) (by rw [hs]; exact hxl) hnews h1 (by omega)
        (fun o ho => by rw [hs, e1]; exact (hcell _ (by rw [hE.len] at ho; omega)).1) (fun o ho => by rw [hs, e1]; exact (hcell _ (by rw [hE.len] at ho; omega)).2)
      rw [hs, e1] at this
      exact this
    -- the same world as behind an append to the whole row
    have key : AppP Pr #[t, t] ty #[.slice (some ⟨g, 0, none⟩) all.length c, .slice (some ⟨lit, 0, none⟩) 1 1] w fun a' l' c' w' => St A0 M w0 w' (R.set i (.els enc e sz a' c' (all ++ [x]))) P := by
      refine H.app hi hT (m := 1) (c2 := 1) hxl hnews h1 (by omega) (by omega) fun a' c' w' H' => ?_
      have e2 : Res.row e sz a' (all.length + 1) c' (all.flatMap enc ++ enc x) = .els enc e sz a' c' (all ++ [x]) := by simp [Res.els]
      rwa [e2] at H'
    obtain ⟨a', l', c', w', hrun, hK⟩ := key
    have r0 := run 0 (Nat.zero_le _)
    simp only [Nat.zero_mul, Nat.sub_zero] at r0
    rw [r0] at hrun
    injection hrun with h2 h3
    injection h2 with h4 h5 h6
    subst h3; subst h4; subst h6
    have hsl : slAddr c n sz (some ⟨g, 0, none⟩) = some ⟨g, n * sz, none⟩ := by
      unfold slAddr
      rw [if_neg (by omega)]
      simp [add_mk]
    have hK2 := h (some ⟨g, 0, none⟩) c (all ++ [x]) n _ (Nat.le_refl _) (by simp; omega) (by rw [List.drop_append_of_le_length hn]) hK
    rw [hsl] at hK2 ⊢
    exact ⟨_, _, _, _, run n hn, hK2⟩
  · -- a new row
    have hce : c = all.length := by omega
    obtain ⟨b, hsl, holds⟩ : ∃ b, slAddr c n sz (some ⟨g, 0, none⟩) = some b ∧ ∀ k u, ((all.drop n).flatMap enc)[k]? = some u → w.cell? (b.add k) = some u := by
      by_cases hcn : c = n
      · refine ⟨⟨g, 0, none⟩, by unfold slAddr; rw [if_pos hcn], fun k u hk => ?_⟩
        rw [List.drop_eq_nil_of_le (by omega)] at hk
        simp at hk
      · refine ⟨⟨g, n * sz, none⟩, by unfold slAddr; rw [if_neg hcn]; simp [add_mk], fun k u hk => ?_⟩
        rw [add_mk]
        have e3 : all.flatMap enc = (all.take n).flatMap enc ++ (all.drop n).flatMap enc := by rw [← List.flatMap_append, List.take_append_drop]
        have e4 : ((all.take n).flatMap enc).length = n * sz := by rw [flat_len hE, List.length_take]; congr 1; omega
        refine H.cellRow hi ?_
        rw [e3, List.getElem?_append_right (by omega), e4, Nat.add_sub_cancel_left]
        exact hk
    have hdl : ((all.drop n).flatMap enc).length = (all.length - n) * sz := by rw [flat_len hE, List.length_drop]
    obtain ⟨v', w', hrun, hown, hgrow⟩ := run_append_arg_grows (P := Pr) w t ty e inf z sz bytes hT.ht hinf hz hs hb hT.hz hpos b (all.length - n) (c - n) ((all.drop n).flatMap enc) hdl holds ⟨lit, 0, none⟩ 1 1 (enc x) hxl hnews (by omega) (by unfold maxLen; omega) (by omega)
    have hown2 := hown
    obtain ⟨hl2, hv2 | ⟨g2, cap2, cur2, hv2, hg2, hh2, hnc2, hcm2, hcs2, ht2⟩⟩ := hown
    · omega
    subst hv2
    have e5 : (all.drop n).flatMap enc ++ enc x = (all.drop n ++ [x]).flatMap enc := by simp
    have hl3 : (all.drop n ++ [x]).length = all.length - n + 1 := by simp
    have hnew : (Res.els enc e sz (some ⟨g2, 0, none⟩) cap2 (all.drop n ++ [x])).ok w' := by
      show Own w' 0 e sz (some ⟨g2, 0, none⟩) (all.drop n ++ [x]).length cap2 ((all.drop n ++ [x]).flatMap enc)
      rw [hl3, ← e5]
      exact ⟨hl2, .inr ⟨g2, cap2, cur2, rfl, Nat.zero_le _, hh2, hnc2, hcm2, hcs2, ht2⟩⟩
    have H2 := H.upd hi (w' := w') (r' := .els enc e sz (some ⟨g2, 0, none⟩) cap2 (all.drop n ++ [x])) ⟨hgrow.os, hgrow.tape, hgrow.output, hgrow.size, fun k hk _ => hgrow.block k hk (by simp)⟩ hnew (fun b' hb' => by
      right
      have hb' : some g2 = some b' := hb'
      injection hb' with hb'
      omega)
    have hK2 := h (some ⟨g2, 0, none⟩) cap2 (all.drop n ++ [x]) 0 w' (Nat.zero_le _) (Nat.zero_le _) rfl H2
    have e6 : slAddr cap2 0 sz (some ⟨g2, 0, none⟩) = some ⟨g2, 0, none⟩ := by
      unfold slAddr
      split
      · rfl
      · simp [add_mk]
    rw [e6, Nat.sub_zero] at hK2
    rw [hsl]
    exact ⟨_, _, _, _, hrun, hK2⟩
end
end Go.Sx
/- The dice's odd ranges. -/
namespace Go.Proofs.Ytmhggobilcmdmaa
open Go.Sx Go.RowKit
def R64 (x : Rg) : Prop := (-9223372036854775808 ≤ x.sn ∧ x.sn ≤ 9223372036854775807) ∧ (-9223372036854775808 ≤ x.f ∧ x.f ≤ 9223372036854775807) ∧ (-9223372036854775808 ≤ x.t ∧ x.t ≤ 9223372036854775807)
theorem wrap64 (e : Int) : -9223372036854775808 ≤ IntKind.wrap .i64 e ∧ IntKind.wrap .i64 e ≤ 9223372036854775807 := by
  have h1 := Int.emod_nonneg e (show (18446744073709551616 : Int) ≠ 0 by decide)
  have h2 := Int.emod_lt_of_pos e (show (0 : Int) < 18446744073709551616 by decide)
  have e0 : IntKind.wrap .i64 e = if e % 18446744073709551616 ≥ 9223372036854775808 then e % 18446744073709551616 - 18446744073709551616 else e % 18446744073709551616 := by
    unfold IntKind.wrap
    by_cases h : e % 18446744073709551616 ≥ 9223372036854775808
    · rw [if_pos h]; exact if_pos (decide_eq_true h)
    · rw [if_neg h]; exact if_neg (fun h' => h (of_decide_eq_true h'))
  rw [e0]
  split <;> omega
theorem mem_setE {α : Type} {p : α → Prop} {l : List α} {k : Nat} {x : α} (h : ∀ y ∈ l, p y) (hx : p x) : ∀ y ∈ l.set k x, p y := fun y hy => by
  rcases List.mem_or_eq_of_mem_set hy with h' | h'
  · exact h y h'
  · rw [h']; exact hx
section
variable {g : Nat} {a : Option Addr} {c : Nat} {ts : List Int} {p : Nat} {w : World} {A : Nat → Prop} {P : World → Prop} {l_a : Option Addr} {l : List Rg} {l_c : Nat}
end
section
variable {A0 : Nat → Prop} {M : List Nat} {w0 w : World} {R : List Res} {P : World → Prop} {i g : Nat} {a : Option Addr} {c : Nat} {ts : List Int} {p : Nat}
theorem dRanges (H : St A0 M w0 w R P) (hi : R[i]? = some (dice g a c ts p)) (hts : Rolls a ts P) (hp : p ≤ ts.length) {sn most : Int} (hm : 0 ≤ most ∧ most ≤ 6) {K : Option Addr → Nat → Nat → World → Prop}
    (h : ∀ ra rc L p' w', (L.length : Int) ≤ most → (∀ x ∈ L, x.sn = sn) → normB (-1) L = true → (∀ x ∈ L, x.t ≤ 62) → p' ≤ ts.length → St A0 M w0 w' (R.set i (dice g a c ts p') ++ [.els encR Ty_api_Range 3 ra rc L]) P → K ra L.length rc w') :
    Calls Try.prog N_made_Dice_Ranges #[(.pointer (some ⟨g, 0, none⟩)), (.int .i64 sn), (.int .i64 most)] w fun e w' => ∃ (ra : Option Addr) (rl rc : Nat), e = .returned (.slice ra rl rc) ∧ K ra rl rc w' := by
  obtain ⟨A, hA, hn', hr, hc⟩ := H.callM hi
  refine (made_Ranges_ct hA hts hr hn' hp hm).mono ?_
  rintro _ w2 ⟨ra, rc, L, p', rfl, h1, h0, h2, h3, hp', S⟩
  exact ⟨_, _, _, rfl, h _ _ L p' w2 h1 h0 h2 h3 hp' ((hc S).imp fun _ h => h.2)⟩
end
end Go.Proofs.Ytmhggobilcmdmaa
namespace Go.Sx
def lastO : Option Rg → List Rg → Option Rg
  | p, [] => p
  | _, x :: L => lastO (some x) L
theorem chain_app {b u : Int} (M : List Rg) : ∀ (L : List Rg) (p : Option Rg), chainB b u p (L ++ M) = (chainB b u p L && chainB b u (lastO p L) M)
  | [], p => by simp [chainB, lastO]
  | x :: L, p => by simp only [List.cons_append, chainB, lastO, chain_app M L, Bool.and_assoc]
theorem lastO_mem : ∀ (L : List Rg) (p : Option Rg) (q : Rg), lastO p L = some q → q ∈ L ∨ p = some q
  | [], p, q, h => .inr h
  | x :: L, p, q, h => by
    rcases lastO_mem L (some x) q h with h | h
    · exact .inl (by simp [h])
    · injection h with h; subst h; exact .inl (by simp)
theorem chain_more {b u d : Int} {L M : List Rg} (h : chainB b u none L = true) (hd : ∀ q ∈ L, way b q.sn u > d) (hm : chainB b u none M = true) (hw : ∀ r ∈ M, way b r.sn u = d) : chainB b u none (L ++ M) = true := by
  rw [chain_app, h, Bool.true_and]
  cases M with
  | nil => rfl
  | cons r M =>
    simp only [chainB, Bool.and_eq_true, decide_eq_true_iff] at hm ⊢
    refine ⟨⟨hm.1.1, ?_⟩, hm.2⟩
    cases hl : lastO none L with
    | none => trivial
    | some q =>
      rcases lastO_mem L none q hl with h1 | h1
      · have := hd q h1
        have := hw r (by simp)
        exact ⟨by omega, fun e => by omega⟩
      · cases h1
theorem chain_norm {b u sn : Int} (hs : 0 ≤ sn ∧ sn < 2 ^ b.toNat) (hw : 1 ≤ way b sn u ∧ way b sn u ≤ 2 ^ (b - 1).toNat) : ∀ (M : List Rg) (p : Option Rg) (t : Int), normB t M = true → -1 ≤ t → (∀ r ∈ M, r.sn = sn ∧ r.t ≤ 65535) →
    (match p with | none => True | some q => q.sn = sn ∧ ¬ whole q ∧ q.t = t) → chainB b u p M = true
  | [], _, _, _, _, _, _ => rfl
  | r :: M, p, t, hn, ht, hr, hp => by
    simp only [normB, Bool.and_eq_true, decide_eq_true_iff] at hn
    obtain ⟨hr1, hr2⟩ := hr r (by simp)
    have hnw : ¬ whole r := fun h => by have := h.1; have := h.2; omega
    simp only [chainB, Bool.and_eq_true, decide_eq_true_iff]
    refine ⟨⟨⟨by rw [hr1]; exact hs, by rw [hr1]; exact hw, .inr ⟨by omega, by omega, hr2⟩⟩, ?_⟩, chain_norm hs hw M (some r) r.t hn.2 (by omega) (fun x hx => hr x (by simp [hx])) ⟨hr1, hnw, rfl⟩⟩
    cases p with
    | none => trivial
    | some q =>
      obtain ⟨h1, h2, h3⟩ := hp
      exact ⟨by rw [hr1, h1]; exact Int.le_refl _, fun _ h => by rcases h with h | h | h; exact h2 h; exact hnw h; omega⟩
theorem way_back {b u d : Int} (h : 0 ≤ d ∧ d < 2 ^ b.toNat) : way b ((u - d) % 2 ^ b.toNat) u = d := by
  unfold way
  have : (u - (u - d) % 2 ^ b.toNat) % 2 ^ b.toNat = (u - (u - d)) % 2 ^ b.toNat := by rw [Int.sub_emod, Int.emod_emod, ← Int.sub_emod]
  rw [this, show u - (u - d) = d by omega]
  exact Int.emod_eq_of_lt h.1 h.2
end Go.Sx
namespace Go.Proofs.Ytmhggobilcmdmaa
open Go.Sx Go.RowKit
section
variable {g : Nat} {a : Option Addr} {c : Nat} {ts : List Int} {p : Nat} {w : World} {A : Nat → Prop} {P : World → Prop} {bits : Int}
theorem made_Status_ct (hP : Held A w P) (hts : Rolls a ts P) (hB : (dice g a c ts p).ok w) (hn : ∀ b, (dice g a c ts p).at = some b → ¬ A b) (hp : p ≤ ts.length) (hb : bitsOk bits) :
    Calls Try.prog N_made_Dice_Status #[(.pointer (some ⟨g, 0, none⟩)), (.int .i64 bits)] w fun e w' => ∃ ra rc s p', e = .returned (.agg #[.int .i64 s.upto, .slice ra s.miss.length rc]) ∧ okS bits s ∧ p' ≤ ts.length ∧
      St A [g] w w' [dice g a c ts p', .els encR Ty_api_Range 3 ra rc s.miss] P := by
  apply F_made_Dice_Status_ok
  unfold F_made_Dice_Status
  have H : St A [g] w w [dice g a c ts p] P := St.startM hP hB hn
  have hb5 := hb.1; have hb9 := hb.2
  have hpw := pow_bits1 hb
  refine H.alloc ?_; clear H; intro b w1 H1
  refine kW_u64 (by omega) ?_ -- bits
  refine ⟨by omega, ?_⟩
  refine kShl1 (by omega) ?_
  refine dNext H1 (i := 0) rfl hts hp (by omega) fun u p1 w2 _ hu hp1 H2 => ?_
  have hu := hu (by omega)
  refine H2.alloc ?_; clear H2; intro b1 w3 H3
  refine H3.store (i := 2) rfl (by rfl) (by rfl) ?_; clear H3; intro w4 H4
  obtain ⟨hf, hhf⟩ : ∃ hf, hf = (2 : Int) ^ (bits - 1).toNat := ⟨_, rfl⟩
  rw [← hhf] at hpw
  have e2 : Int.tdiv (2 ^ bits.toNat) 2 = hf := by rw [hpw.1, Int.tdiv_eq_ediv_of_nonneg (by omega)]; omega
  rw [e2]
  refine kW_i64 (by omega) ?_
  refine kW_i64 (by omega) ?_
  refine dNext H4 (i := 0) rfl hts hp1 (by omega) fun r1 p2 w5 _ hr1 hp2 H5 => ?_
  have hr1 := hr1 (by omega)
  refine kW_i64 (by omega) ?_
  have H5 := H5.nilE encR Ty_api_Range 3
  refine ⟨fun at1 => ((at1 + 5).toNat, fun w6 => ∃ (L : List Rg) (ma : Option Addr) (mc p3 : Nat), at1 ≤ hf ∧ -4 ≤ at1 ∧ chainB bits u none L = true ∧ (∀ q ∈ L, way bits q.sn u > at1) ∧ (L.length : Int) ≤ 3 * (hf - at1) ∧ p3 ≤ ts.length ∧
    St A [g] w w6 [dice g a c ts p3, .blk b Ty_api_Status [(.int .i64 (0 : Int)), (.slice none 0 0)], .blk b1 Ty_api_Status [(.int .i64 u), (.slice ma L.length mc)], .els encR Ty_api_Range 3 ma mc L] P), ⟨[], none, 0, p2, by omega, by omega, rfl, fun q hq => by simp at hq, by simp; omega, hp2, H5⟩, ?_⟩ --! I
  clear H5
  rintro _ at1 w6 ⟨L, ma, mc, p3, hat, hat0, hch, hgt, hlen, hp3, H6⟩
  refine bsplit_dec (fun c2 => ?_) (fun c2 => ?_) --  (decide (at1 > (0 : Int)))
  · refine H6.ld (i := 2) rfl rfl ?_
    refine kW_i64 (by omega) ?_ -- r - at1
    refine (made_Mod_ct (u - at1) (2 ^ bits.toNat) (by omega)).mono ?_
    rintro _ w7 ⟨rfl, hb7⟩; have H7 := H6.pass hb7; clear H6
    refine ⟨_, rfl, ?_⟩
    have esn : modI (u - at1) (2 ^ bits.toNat) = (u - at1) % 2 ^ bits.toNat := if_neg (by omega)
    obtain ⟨sn, hsn⟩ : ∃ sn, sn = modI (u - at1) (2 ^ bits.toNat) := ⟨_, rfl⟩
    have hsr := modI_range (u - at1) (2 ^ bits.toNat) (by omega)
    have hway : way bits sn u = at1 := by rw [hsn, esn]; exact way_back (by omega)
    rw [← hsn] at hsr ⊢
    refine made_One_ct H7 (i := 0) rfl hts hp3 (by omega) fun v p4 w8 _ hp4 H8 => ?_
    have next : ∀ {w' : World} {R : List Res} {ra : Option Addr} {rc pp : Nat} {M : List Rg} {r4 : Int}, (0 ≤ r4 ∧ r4 < 4) → pp ≤ ts.length → chainB bits u none M = true → (∀ r ∈ M, way bits r.sn u = at1) → M.length ≤ 3 →
        St A [g] w w' (dice g a c ts pp :: .blk b Ty_api_Status [(.int .i64 (0 : Int)), (.slice none 0 0)] :: .blk b1 Ty_api_Status [(.int .i64 u), (.slice ra (L ++ M).length rc)] :: .els encR Ty_api_Range 3 ra rc (L ++ M) :: R) P →
        (∃ (L : List Rg) (ma : Option Addr) (mc p3 : Nat), at1 - (1 + r4) ≤ hf ∧ -4 ≤ at1 - (1 + r4) ∧ chainB bits u none L = true ∧ (∀ q ∈ L, way bits q.sn u > at1 - (1 + r4)) ∧ (L.length : Int) ≤ 3 * (hf - (at1 - (1 + r4))) ∧ p3 ≤ ts.length ∧
          St A [g] w w' [dice g a c ts p3, .blk b Ty_api_Status [(.int .i64 (0 : Int)), (.slice none 0 0)], .blk b1 Ty_api_Status [(.int .i64 u), (.slice ma L.length mc)], .els encR Ty_api_Range 3 ma mc L] P) ∧ (at1 - (1 + r4) + 5).toNat < (at1 + 5).toNat := fun hr hpp hm hw hml H' =>
      ⟨⟨_, _, _, _, by omega, by omega, chain_more hch hgt hm hw, fun q hq => by
        rcases List.mem_append.1 hq with h | h
        · have := hgt q h; omega
        · have := hw q h; omega, by simp; omega, hpp, H'.sub (fun i => i) (by rintro (_ | _ | _ | _ | _) r h <;> first | exact h | cases h) (fun _ _ _ _ h => h)⟩, by omega⟩
    refine bsplit_intro (fun c => ?_) (fun c => ?_) --  r3
    · refine H8.ldS (i := 2) rfl rfl ?_
      refine H8.alloc ?_; clear H8; intro b2 w9 H9
      refine H9.appEB encR_ok (i := 3) (j := 4) rfl [⟨sn, 0, 0⟩] rfl sl_Ty_S_api_Range rfl (by simp; omega) (by simp; omega) ?_; intro x_a1 x_c1 w10 H10 --! append
      refine H10.set (i := 2) rfl (by simp) ?_; clear H10; intro w11 H11
      refine dNext H11 (i := 0) rfl hts hp4 (by omega) fun r4 p5 w12 _ hr4 hp5 H12 => ?_
      have hr4 := hr4 (by omega)
      refine kW_i64 (by omega) ?_ -- (1 : Int) + r4
      refine kW_i64 (by omega) ?_ -- at1 - ((1 : Int) + r4)
      refine next hr4 hp5 ?_ (fun r hr => by simp at hr; subst hr; exact hway) (by simp) H12
      simp only [chainB, Bool.and_true, decide_eq_true_iff]
      exact ⟨⟨hsr, by rw [hway]; omega, .inl ⟨rfl, rfl⟩⟩, trivial⟩
    · refine H8.drew ?_; clear H8; intro w13 H13
      refine ⟨fun x => x = b1, ?_⟩
      refine ⟨rfl, ?_⟩
      refine H13.ldS (i := 2) rfl rfl ?_
      refine dRanges H13 (i := 0) rfl hts hp4 (by omega) fun ra rc M p5 w14 hM1 hM2 hM3 hM4 hp5 H14 => ?_
      refine ⟨keepsBlk H13 H14 (i := 2) (j := 2) rfl rfl, ?_⟩
      refine H14.appE encR_ok (i := 3) rfl sl_Ty_S_api_Range (H14.slE encR_ok (i := 4) rfl) (by omega) (by omega) ?_; intro x_a3 x_c3 w15 H15 --! append
      refine ⟨keepsBlk H13 H15 (i := 2) (j := 2) rfl rfl, ?_⟩ --!
      refine H15.set (i := 2) rfl (by simp) ?_; intro w16 H16
      refine dNext H16 (i := 0) rfl hts hp5 (by omega) fun r5 p6 w17 _ hr5 hp6 H17 => ?_
      have hr5 := hr5 (by omega)
      refine kW_i64 (by omega) ?_ -- (1 : Int) + r5
      refine kW_i64 (by omega) ?_ -- at1 - ((1 : Int) + r5)
      exact next hr5 hp6 (chain_norm hsr (by rw [hway]; omega) M none (-1) hM3 (by omega) (fun r hr => ⟨hM2 r hr, by have := hM4 r hr; omega⟩) trivial) (fun r hr => by rw [hM2 r hr]; exact hway) (by omega) H17
  · refine H6.ldS (i := 2) rfl rfl ?_
    refine bsplit_dec (fun c1 => ?_) (fun c1 => ?_) --  (decide (((0 : Nat) : Int) > (64 : Int)))
    · have hmc := H6.capE (i := 3) rfl
      refine H6.ldS (i := 2) rfl rfl ?_
      refine ⟨⟨by omega, by omega⟩, ?_⟩ -- hi
      have H6 := H6.shrinkE encR_ok (i := 3) rfl 64 (by omega)
      have ea : slAddr mc 0 3 ma = ma := by
        unfold slAddr
        split
        · rfl
        · cases ma <;> simp [add_zero]
      have el : (64 : Int).toNat - 0 = (L.take 64).length := by simp; omega
      rw [ea, el, Nat.sub_zero]
      refine H6.set (i := 2) rfl (by simp) ?_; clear H6; intro w18 H18
      refine ⟨_, _, _, _, H18.cells (i := 2) rfl, ?_⟩
      refine H18.store (i := 1) rfl (by rfl) (by rfl) ?_; clear H18; intro w19 H19
      refine ⟨_, _, _, _, H19.cells (i := 1) rfl, ?_⟩
      have hch2 : chainB bits u none (L.take 64) = true := by
        have e : L.take 64 ++ L.drop 64 = L := List.take_append_drop 64 L
        rw [← e, chain_app, Bool.and_eq_true] at hch
        exact hch.1
      refine ⟨_, _, ⟨u, L.take 64⟩, p3, rfl, ⟨hb, by simp only; omega, by simp; omega, hch2⟩, hp3, H19.sub (fun i => 3 * i) ?_ (fun _ _ _ _ h => by omega)⟩
      rintro (_ | _ | _) r h <;> first | exact h | cases h
    · refine ⟨_, _, _, _, H6.cells (i := 2) rfl, ?_⟩
      refine H6.store (i := 1) rfl (by rfl) (by rfl) ?_; clear H6; intro w20 H20
      refine ⟨_, _, _, _, H20.cells (i := 1) rfl, ?_⟩
      refine ⟨_, _, ⟨u, L⟩, p3, rfl, ⟨hb, by simp only; omega, by simp only; omega, hch⟩, hp3, H20.sub (fun i => 3 * i) ?_ (fun _ _ _ _ h => by omega)⟩
      rintro (_ | _ | _) r h <;> first | exact h | cases h
end
end Go.Proofs.Ytmhggobilcmdmaa
namespace Go.Proofs.Ytmhggobilcmdmaa
open Go.Sx Go.RowKit
set_option maxRecDepth 100000
section
variable {g : Nat} {a : Option Addr} {c : Nat} {ts : List Int} {p : Nat} {w : World} {A : Nat → Prop} {P : World → Prop}
theorem made_OddLink_ct {l : Lk} (hP : Held A w P) (hts : Rolls a ts P) (hB : (dice g a c ts p).ok w) (hn : ∀ b, (dice g a c ts p).at = some b → ¬ A b) (hp : p ≤ ts.length) :
    Calls Try.prog N_made_Dice_OddLink #[(.pointer (some ⟨g, 0, none⟩)), (.agg #[.int .i64 l.bits, .int .i64 l.every, .int .i64 l.poll, .int .i64 l.wait, .int .i64 l.quiet, .int .i64 l.tries])] w fun e w' =>
      ∃ (l : Lk) (p' : Nat), e = .returned (.agg #[.int .i64 l.bits, .int .i64 l.every, .int .i64 l.poll, .int .i64 l.wait, .int .i64 l.quiet, .int .i64 l.tries]) ∧ p' ≤ ts.length ∧ St A [g] w w' [dice g a c ts p'] P := by
  apply F_made_Dice_OddLink_ok
  unfold F_made_Dice_OddLink
  have H : St A [g] w w [dice g a c ts p] P := St.startM hP hB hn
  refine H.alloc ?_; clear H; intro b w1 H1
  refine H1.alloc ?_; clear H1; intro b1 w2 H2
  refine H2.alloc ?_; clear H2; intro b2 w3 H3
  simp only [List.cons_append, List.nil_append] at H3
  refine dNext H3 (i := 0) rfl hts hp (by omega) fun v p1 w4 _ hv hp1 H4 => ?_
  have hv := hv (by omega)
  simp only [List.set_cons_zero] at H4
  obtain ⟨k, rfl⟩ := natOf hv.1
  refine kIx_at ⟨by omega, by omega⟩ ?_
  obtain ⟨x, hx⟩ : ∃ x : Int, ([Value.int .i64 (-1), .int .i64 0, .int .i64 1, .int .i64 4, .int .i64 10, .int .i64 64, .int .i64 65, .int .i64 1000, .int .i64 1001, .int .i64 33] : List Value)[k]? = some (.int .i64 x) := by
    rcases (show k = 0 ∨ k = 1 ∨ k = 2 ∨ k = 3 ∨ k = 4 ∨ k = 5 ∨ k = 6 ∨ k = 7 ∨ k = 8 ∨ k = 9 by omega) with rfl | rfl | rfl | rfl | rfl | rfl | rfl | rfl | rfl | rfl <;> exact ⟨_, rfl⟩
  rw [add_mk, Nat.zero_add, Int.toNat_natCast, Nat.mul_one]
  refine ⟨x, H4.cell (i := 3) rfl hx, ?_⟩
  refine ⟨fun w12 => ∃ (m : Lk) (p' : Nat), p' ≤ ts.length ∧ St A [g] w w12 [dice g a c ts p', .blk b Ty_api_Link (encL m), .blk b1 Ty_api_Link (encL ⟨0, 0, 0, 0, 0, 0⟩)] P, ?_, ?_⟩
  · rintro _ w12 ⟨m, p', hp', H12⟩
    refine ⟨_, _, _, _, _, _, H12.cells (i := 1) rfl, ?_⟩
    refine H12.store (i := 2) rfl (by rfl) (by rfl) ?_; clear H12; intro w13 H13
    simp only [List.set_cons_succ, List.set_cons_zero] at H13
    refine ⟨_, _, _, _, _, _, H13.cells (i := 2) rfl, ?_⟩
    exact ⟨m, p', rfl, hp', St.left (X := [_]) H13⟩
  · refine dNext H4 (i := 0) rfl hts hp1 (by omega) fun v2 p2 w5 _ hv2 hp2 H5 => ?_
    simp only [List.set_cons_zero] at H5
    have fin : ∀ {w6 : World} (m : Lk), St A [g] w w6 [dice g a c ts p2, .blk b Ty_api_Link (encL m), .blk b1 Ty_api_Link (encL ⟨0, 0, 0, 0, 0, 0⟩), .blk b2 Ty_int [Value.int .i64 (-1), .int .i64 0, .int .i64 1, .int .i64 4, .int .i64 10, .int .i64 64, .int .i64 65, .int .i64 1000, .int .i64 1001, .int .i64 33]] P →
        ∃ (m : Lk) (p' : Nat), p' ≤ ts.length ∧ St A [g] w w6 [dice g a c ts p', .blk b Ty_api_Link (encL m), .blk b1 Ty_api_Link (encL ⟨0, 0, 0, 0, 0, 0⟩)] P := fun m H => ⟨m, p2, hp2, St.left (X := [_, _, _]) H⟩
    refine kLet_in ?_
    refine bsplit_dec (fun c4 => ?_) (fun c4 => ?_)
    · refine H5.set (i := 1) rfl (by show 0 < 6; decide) ?_; intro w6 H6
      simp only [List.set_cons_succ, List.set_cons_zero] at H6
      exact fin { l with bits := x } H6
    refine kLet_in ?_
    refine bsplit_dec (fun c4 => ?_) (fun c4 => ?_)
    · refine H5.set (i := 1) rfl (by show 1 < 6; decide) ?_; intro w6 H6
      simp only [List.set_cons_succ, List.set_cons_zero] at H6
      exact fin { l with every := x } H6
    refine kLet_in ?_
    refine bsplit_dec (fun c4 => ?_) (fun c4 => ?_)
    · refine H5.set (i := 1) rfl (by show 2 < 6; decide) ?_; intro w6 H6
      simp only [List.set_cons_succ, List.set_cons_zero] at H6
      exact fin { l with poll := x } H6
    refine kLet_in ?_
    refine bsplit_dec (fun c4 => ?_) (fun c4 => ?_)
    · refine H5.set (i := 1) rfl (by show 3 < 6; decide) ?_; intro w6 H6
      simp only [List.set_cons_succ, List.set_cons_zero] at H6
      exact fin { l with wait := x } H6
    refine kLet_in ?_
    refine bsplit_dec (fun c4 => ?_) (fun c4 => ?_)
    · refine H5.set (i := 1) rfl (by show 4 < 6; decide) ?_; intro w6 H6
      simp only [List.set_cons_succ, List.set_cons_zero] at H6
      exact fin { l with quiet := x } H6
    · refine H5.set (i := 1) rfl (by show 5 < 6; decide) ?_; intro w6 H6
      simp only [List.set_cons_succ, List.set_cons_zero] at H6
      exact fin { l with tries := x } H6
end
theorem statusF {A0 : Nat → Prop} {w0 w : World} {R : List Res} {P : World → Prop} {i g : Nat} {a : Option Addr} {c : Nat} {ts : List Int} {p : Nat} {bits : Int} (H : St A0 [] w0 w R P) (hi : R[i]? = some (dice g a c ts p)) (hts : Rolls a ts P) (hp : p ≤ ts.length) (hb : bitsOk bits) :
    Calls Try.prog N_made_Dice_Status #[(.pointer (some ⟨g, 0, none⟩)), (.int .i64 bits)] w fun e w' => ∃ (r : Stt) (ma : Option Addr) (mc p' : Nat), e = .returned (.agg #[.int .i64 r.upto, .slice ma r.miss.length mc]) ∧ r.miss.length ≤ 64 ∧ p' ≤ ts.length ∧
      St A0 [] w0 w' (R.set i (dice g a c ts p')) fun w => SlR (CE encR) 3 w ma r.miss ∧ P w := by
  obtain ⟨A, hA, hn', hr, hc⟩ := H.callM hi
  refine (made_Status_ct hA hts hr hn' hp hb).mono ?_
  rintro _ w2 ⟨ma, mc, r, p', rfl, h1, h3, S⟩
  have K := hc S
  have K2 := K.shareE encR_ok (i := (R.set i (dice g a c ts p')).length) (last_at _ _)
  have e2 : (R.set i (dice g a c ts p') ++ [Res.els encR Ty_api_Range 3 ma mc r.miss]).set (R.set i (dice g a c ts p')).length .gone = R.set i (dice g a c ts p') ++ [.gone] := by simp
  rw [e2] at K2
  exact ⟨r, ma, mc, p', rfl, h1.2.2.1, h3, K2.dropLast.imp fun _ h => ⟨h.1, h.2.2⟩⟩
theorem law20_SenderMade_ct {ta : Option Addr} {tc : Nat} {ts : List Int} {w : World} (hts : SlR (IntC .i64) 1 w ta ts) :
    Calls Try.prog N_law20_SenderMade #[(.slice ta ts.length tc)] w fun e w' => e = .returned (.bool true) ∧ Below w.heap.size w w' := by
  apply F_law20_SenderMade_ok
  unfold F_law20_SenderMade
  have H := (St.startA w).hold (slr_held hts)
  refine made_Light_ct.mono ?_ -- (.slice t_a t_l t_c)
  rintro _ w1 ⟨rfl, hb1⟩; have H1 := H.pass hb1; clear H
  refine ⟨_, rfl, ?_⟩
  refine bsplit_nd (fun c16 => ?_) (fun c16 => ?_) --  (!r)
  · refine law20_awake_ct.mono ?_ -- 
    rintro _ w2 ⟨rfl, hb2⟩; have H2 := H1.pass hb2; clear H1
    exact ⟨_, rfl, rfl, H2.below⟩
  refine made_Roll_ct.mono ?_ -- (.slice t_a t_l t_c)
  rintro _ w3 ⟨g, rfl, K⟩; have H3 := H1.callR K; clear H1 K
  simp only [List.nil_append] at H3
  have hR0 : Rolls ta ts fun w => SlR (IntC .i64) 1 w ta ts ∧ True := ⟨fun _ h => h.1, by omega⟩
  refine ⟨_, rfl, ?_⟩
  obtain ⟨A', hA', hn', hr', hc⟩ := H3.callM (i := 0) rfl
  refine (law20_random_ct hA' hR0 hr' hn' (Nat.zero_le _)).mono ?_
  rintro _ w4 ⟨s, ua, uc, L, D, p1, rfl, hok, hgu, hL, hO, hp1, K⟩
  have H4 := (hc K).imp (Q := fun w => Dat0 L w ∧ SlR (IntC .i64) 1 w ta ts ∧ True) fun _ h => ⟨h.1.1, h.2⟩
  clear hc K hA' hn' hr' H3
  simp only [List.set_cons_zero, List.cons_append, List.nil_append] at H4
  refine ⟨_, _, _, _, _, _, _, _, _, _, _, _, _, _, _, rfl, ?_⟩
  refine H4.alloc ?_; clear H4; intro b w5 H5
  have H5 := St.lastTo (X := [_]) (T := .els encUP Ty_api_Unit 5 ua uc L :: D.map resD) H5
  simp only [List.cons_append, List.nil_append] at H5
  refine H5.store (i := 1) rfl (by rfl) (by rfl) ?_; clear H5; intro w6 H6
  simp only [List.set_cons_succ, List.set_cons_zero] at H6
  refine ⟨_, _, _, _, _, _, _, _, _, _, _, _, _, _, _, H6.cells (i := 1) rfl, ?_⟩
  refine (reportF H6 (i := 0) rfl (hR0.and _) hp1 hok).mono ?_
  rintro _ w7 ⟨r, ma, mc, p2, rfl, hup, hml, hp2, H7⟩; clear H6
  simp only [List.set_cons_zero] at H7
  refine ⟨_, _, _, _, rfl, ?_⟩
  refine H7.alloc ?_; clear H7; intro b1 w8 H8
  have H8 := St.lastTo (X := [_, _]) (T := .els encUP Ty_api_Unit 5 ua uc L :: D.map resD) H8
  simp only [List.cons_append, List.nil_append] at H8
  refine H8.store (i := 2) rfl (by rfl) (by rfl) ?_; clear H8; intro w9 H9
  simp only [List.set_cons_succ, List.set_cons_zero] at H9
  have hb := hok.lk.1
  refine ⟨fun w13 => ∃ (r : Stt) (ma : Option Addr) (mc p' : Nat), r.miss.length ≤ 100 ∧ p' ≤ ts.length ∧ St (All w) [] w w13 (dice g ta tc ts p' :: .blk b Ty_api_Sender (encS s ua uc) :: .blk b1 Ty_api_Status [.int .i64 r.upto, .slice ma r.miss.length mc] :: .els encUP Ty_api_Unit 5 ua uc L :: D.map resD)
    (fun w => SlR (CE encR) 3 w ma r.miss ∧ Dat0 L w ∧ SlR (IntC .i64) 1 w ta ts ∧ True), ?_, ?_⟩
  · rintro _ w13 ⟨r, ma, mc, p1, hml, hp1, H13⟩
    refine ⟨fun w44 => ∃ (s : Sd) (ua : Option Addr) (uc p' : Nat), GU s.units ∧ p' ≤ ts.length ∧ St (All w) [] w w44 [dice g ta tc ts p', .blk b Ty_api_Sender (encS s ua uc), .blk b1 Ty_api_Status [.int .i64 r.upto, .slice ma r.miss.length mc]]
      (fun w => UnR w ua s.units ∧ SlR (CE encR) 3 w ma r.miss ∧ SlR (IntC .i64) 1 w ta ts ∧ True), ?_, ?_⟩
    · rintro _ w44 ⟨s, ua, uc, p2, hgu, hp2, H44⟩
      have hR1 : Rolls ta ts (fun w => UnR w ua s.units ∧ SlR (CE encR) 3 w ma r.miss ∧ SlR (IntC .i64) 1 w ta ts ∧ True) := (hR0.and _).and _
      refine made_Bytes_ct H44 (i := 0) rfl hR1 hp2 (by omega) fun ra rc d p3 w45 hd hdl hp3 H45 => ?_
      simp only [List.set_cons_zero, List.cons_append, List.nil_append] at H45
      have H45 := H45.shareI (i := 3) rfl
      simp only [List.set_cons_succ, List.set_cons_zero] at H45
      have H45 := St.left (X := [_, _, _]) (Y := [_]) H45
      clear H44
      refine made_One_ct H45 (i := 0) rfl (hR1.and _) hp3 (by omega) fun v p4 w46 _ hp4 H46 => ?_
      simp only [List.set_cons_zero] at H46
      clear H45
      have key : ∀ {w49 : World} {ra : Option Addr} {rc p4 : Nat} {d : List Int}, Bytes d → p4 ≤ ts.length → St (All w) [] w w49 [dice g ta tc ts p4, .blk b Ty_api_Sender (encS s ua uc), .blk b1 Ty_api_Status [.int .i64 r.upto, .slice ma r.miss.length mc]] (fun w => SlR (IntC .u8) 1 w ra d ∧ UnR w ua s.units ∧ SlR (CE encR) 3 w ma r.miss ∧ SlR (IntC .i64) 1 w ta ts ∧ True) →
          ∃ S : Nat → Prop, Calls Try.prog N_law20_awake #[] w49 fun e_ w50 => ∃ r18 : Bool, e_ = .returned (.bool r18) ∧ (KeepsB S w49 w50 ∧ bsplit r18
            ((S b ∧ ∃ (x_0 x_1 x_2 x_3 x_4 x_5 x_6 x_7 : Int) (x_8_a : Option Addr) (x_8_l x_8_c : Nat) (x_9 x_10 x_11 : Int) (x_12 : Bool), cellsAt w49 ⟨b, 0, none⟩ 0 [(.int .i64 x_0), (.int .i64 x_1), (.int .i64 x_2), (.int .i64 x_3), (.int .i64 x_4), (.int .i64 x_5), (.int .i64 x_6), (.int .i64 x_7), (.slice x_8_a x_8_l x_8_c), (.int .i64 x_9), (.int .i64 x_10), (.int .i64 x_11), (.bool x_12)] ∧
              (S b1 ∧ ∃ (y_0 : Int) (y_1_a : Option Addr) (y_1_l y_1_c : Nat), cellsAt w49 ⟨b1, 0, none⟩ 0 [(.int .i64 y_0), (.slice y_1_a y_1_l y_1_c)] ∧
              Calls Try.prog N_made_Dice_Next #[(.pointer (some ⟨g, 0, none⟩)), (.int .i64 (20 : Int))] w50 fun e_1 w51 => ∃ r19 : Int, e_1 = .returned (.int .i64 r19) ∧ (KeepsB S w49 w51 ∧ (kW .i64 (r19 - (1 : Int)) fun x25 =>
              Calls Try.prog N_law20_agree #[(.agg #[.int .i64 x_0, .int .i64 x_1, .int .i64 x_2, .int .i64 x_3, .int .i64 x_4, .int .i64 x_5, .int .i64 x_6, .int .i64 x_7, .slice x_8_a x_8_l x_8_c, .int .i64 x_9, .int .i64 x_10, .int .i64 x_11, .bool x_12]), (.slice ra d.length rc), (.int .i64 x25), (.agg #[.int .i64 y_0, .slice y_1_a y_1_l y_1_c])] w51 fun e_2 w52 =>
              ∃ r20 : Bool, e_2 = .returned (.bool r20) ∧ (Ending.returned (.bool r20) = .returned (.bool true) ∧ Below w.heap.size w w52))))))
            (Ending.returned (.bool false) = .returned (.bool true) ∧ Below w.heap.size w w50)) := fun {w49 ra rc p4 d} hd hp4 H49 => by
        refine ⟨fun z => z < w49.heap.size ∧ z ∉ [g], ?_⟩
        refine law20_awake_ct.mono ?_ -- 
        rintro _ w50 ⟨rfl, k50⟩; have H50 := H49.pass k50
        refine ⟨_, rfl, ?_⟩
        have f50 := k50.fr [g]
        refine ⟨f50.keeps, ?_⟩
        refine bsplit_intro (fun _ => ?_) (fun h => by cases h) --  r18
        refine ⟨⟨H49.lt (i := 1) rfl rfl, nin1 (H49.ne (i := 1) (j := 0) rfl rfl (by decide) rfl rfl)⟩, ?_⟩
        refine ⟨_, _, _, _, _, _, _, _, _, _, _, _, _, _, _, H49.cells (i := 1) rfl, ?_⟩
        refine ⟨⟨H49.lt (i := 2) rfl rfl, nin1 (H49.ne (i := 2) (j := 0) rfl rfl (by decide) rfl rfl)⟩, ?_⟩
        refine ⟨_, _, _, _, H49.cells (i := 2) rfl, ?_⟩
        refine dNext H50 (i := 0) rfl (hR1.and _) hp4 (by omega) fun v p5 w51 f51 hv hp5 H51 => ?_
        have hv := hv (by omega)
        refine ⟨(f50.tr f51 (by simp)).keeps, ?_⟩
        refine kW_i64 (by omega) ?_ -- r19 - (1 : Int)
        refine (law20_agree_ct (s := s) (d := d) (r := r) H51.get.2.1 hgu H51.get.1 hd (by omega) H51.get.2.2.1 (by omega)).mono ?_
        rintro _ w52 ⟨rfl, hb52⟩; have H52 := H51.pass hb52
        exact ⟨_, rfl, rfl, H52.below⟩
      refine bsplit_intro (fun c14 => ?_) (fun c14 => ?_) --  r16
      · refine dNext H46 (i := 0) rfl (hR1.and _) hp4 (by omega) fun v p5 w47 _ hv hp5 H47 => ?_
        have hv := hv (by omega)
        simp only [List.set_cons_zero] at H47
        clear H46
        refine kW_i64 (by omega) ?_ -- (2053 : Int) + r17
        obtain ⟨n, hn⟩ := natOf (show 0 ≤ 2053 + v by omega)
        rw [hn]
        refine (made_Filled_ct (n := n) (seed := 1) (by omega) (by omega)).mono ?_
        rintro _ w48 ⟨fa, fc, rfl, K⟩
        have H48 := (H47.callR K).shareI (i := 3) rfl
        simp only [List.cons_append, List.nil_append, List.set_cons_succ, List.set_cons_zero] at H48
        have H48 := (St.left (X := [_, _, _]) (Y := [_]) H48).imp (Q := fun w => SlR (IntC .u8) 1 w fa (fillB 1 n) ∧ UnR w ua s.units ∧ SlR (CE encR) 3 w ma r.miss ∧ SlR (IntC .i64) 1 w ta ts ∧ True) fun _ h => ⟨h.1, h.2.2⟩
        refine ⟨_, _, _, rfl, ?_⟩
        refine H48.drew ?_; clear H48; intro w49 H49
        have := key (fillB_bytes 1 n) hp5 H49 (rc := fc)
        rw [fillB_len] at this
        exact this
      · refine H46.drew ?_; clear H46; intro w53 H53
        exact key hd hp4 H53
    · -- odd ones
      have hR2 : Rolls ta ts (fun w => SlR (CE encR) 3 w ma r.miss ∧ Dat0 L w ∧ SlR (IntC .i64) 1 w ta ts ∧ True) := (hR0.and _).and _
      have gz := okB_fit (okB_iff.2 hok)
      have hf1 := gz.1.1
      have hlen : L.length = s.units.length := by rw [← hL, List.length_map]
      have fin : ∀ {w' : World} {p' : Nat} {s' : Sd} {L' : List UP} {D' : List DP} {ua' : Option Addr} {uc' : Nat}, p' ≤ ts.length → L'.map (·.u) = s'.units → OwnDs L' D' → GU s'.units →
          St (All w) [] w w' (dice g ta tc ts p' :: .blk b Ty_api_Sender (encS s' ua' uc') :: .blk b1 Ty_api_Status [.int .i64 r.upto, .slice ma r.miss.length mc] :: .els encUP Ty_api_Unit 5 ua' uc' L' :: D'.map resD) (fun w => SlR (CE encR) 3 w ma r.miss ∧ Dat0 L' w ∧ SlR (IntC .i64) 1 w ta ts ∧ True) →
          ∃ (s : Sd) (ua : Option Addr) (uc p' : Nat), GU s.units ∧ p' ≤ ts.length ∧ St (All w) [] w w' [dice g ta tc ts p', .blk b Ty_api_Sender (encS s ua uc), .blk b1 Ty_api_Status [.int .i64 r.upto, .slice ma r.miss.length mc]]
            (fun w => UnR w ua s.units ∧ SlR (CE encR) 3 w ma r.miss ∧ SlR (IntC .i64) 1 w ta ts ∧ True) := fun {w' p' s' L' D' ua' uc'} hp hL hO hg H =>
        ⟨s', ua', uc', p', hg, hp, (shareU (X := [_, _, _]) H hO fun _ h => h.2.1).imp fun _ h => ⟨h.1.un hL, h.2.1, h.2.2.2⟩⟩
      refine made_One_ct H13 (i := 0) rfl hR2 hp1 (by omega) fun v p2 w14 _ hp2 H14 => ?_
      simp only [List.set_cons_zero] at H14
      clear H13
      refine bsplit_intro (fun c11 => ?_) (fun c11 => fin hp2 hL hO hgu H14) --  r4
      refine dNext H14 (i := 0) rfl hR2 hp2 (by omega) fun v p3 w15 _ hv hp3 H15 => ?_
      simp only [List.set_cons_zero] at H15
      clear H14
      refine kLet_in ?_
      refine bsplit_dec (fun c10 => ?_) (fun c10 => ?_) --  (decide (r5 = (0 : Int)))
      · refine ⟨_, _, _, _, _, _, H15.cellsAt (i := 1) rfl (by rfl), ?_⟩
        obtain ⟨A', hA', hn', hr', hc⟩ := H15.callM (i := 0) rfl
        refine (made_OddLink_ct (l := s.lk) hA' hR2 hr' hn' hp3).mono ?_
        rintro _ w16 ⟨l, p4, rfl, hp4, K⟩
        have H16 := (hc K).imp fun _ h => h.2
        clear hc K hA' hn' hr' H15
        simp only [List.set_cons_zero, List.append_nil] at H16
        refine ⟨_, _, _, _, _, _, rfl, ?_⟩
        refine H16.storeAt (i := 1) rfl (by show 0 + 6 ≤ 13; decide) (by rfl) ?_; clear H16; intro w17 H17
        simp only [List.set_cons_succ, List.set_cons_zero] at H17
        exact fin (s' := { s with lk := l }) hp4 hL hO hgu H17
      refine kLet_in ?_
      refine bsplit_dec (fun c9 => ?_) (fun c9 => ?_) --  (decide (r5 = (1 : Int)))
      · have hfr := hok.first
        have hpw := pow_bits hb
        unfold snOk at hfr
        refine H15.drew ?_; clear H15; intro w18 H18
        refine ⟨fun z => z < w18.heap.size ∧ z ∉ [g], ?_⟩
        refine ⟨⟨H18.lt (i := 1) rfl rfl, nin1 (H18.ne (i := 1) (j := 0) rfl rfl (by decide) rfl rfl)⟩, ?_⟩
        refine H18.ld (i := 1) (x := s.first) rfl rfl ?_
        refine dNext H18 (i := 0) rfl hR2 hp3 (by omega) fun v p4 w19 f19 hv hp4 H19 => ?_
        have hv := hv (by omega)
        simp only [List.set_cons_zero] at H19
        refine ⟨f19.keeps, ?_⟩
        refine kW_i64 (by omega) ?_
        refine kW_i64 (by omega) ?_
        refine H19.set (i := 1) rfl (by show 6 < 13; decide) ?_; intro w20 H20
        simp only [List.set_cons_succ, List.set_cons_zero] at H20
        exact fin (s' := { s with first := s.first + (v - 1) }) hp4 hL hO hgu H20
      refine kLet_in ?_
      refine bsplit_dec (fun c8 => ?_) (fun c8 => ?_) --  (decide (r5 = (2 : Int)))
      · have hfr := hok.next
        have hpw := pow_bits hb
        unfold snOk at hfr
        refine H15.drew ?_; clear H15; intro w18 H18
        refine ⟨fun z => z < w18.heap.size ∧ z ∉ [g], ?_⟩
        refine ⟨⟨H18.lt (i := 1) rfl rfl, nin1 (H18.ne (i := 1) (j := 0) rfl rfl (by decide) rfl rfl)⟩, ?_⟩
        refine H18.ld (i := 1) (x := s.next) rfl rfl ?_
        refine dNext H18 (i := 0) rfl hR2 hp3 (by omega) fun v p4 w19 f19 hv hp4 H19 => ?_
        have hv := hv (by omega)
        simp only [List.set_cons_zero] at H19
        refine ⟨f19.keeps, ?_⟩
        refine kW_i64 (by omega) ?_
        refine kW_i64 (by omega) ?_
        refine H19.set (i := 1) rfl (by show 7 < 13; decide) ?_; intro w20 H20
        simp only [List.set_cons_succ, List.set_cons_zero] at H20
        exact fin (s' := { s with next := s.next + (v - 1) }) hp4 hL hO hgu H20
      refine kLet_in ?_
      refine bsplit_dec (fun c7 => ?_) (fun c7 => ?_) --  (decide (r5 = (3 : Int)))
      · refine dNext H15 (i := 0) rfl hR2 hp3 (by omega) fun v p4 w19 f19 hv hp4 H19 => ?_
        have hv := hv (by omega)
        simp only [List.set_cons_zero] at H19
        refine kW_i64 (by omega) ?_
        refine H19.set (i := 1) rfl (by show 10 < 13; decide) ?_; intro w20 H20
        simp only [List.set_cons_succ, List.set_cons_zero] at H20
        exact fin (s' := { s with poll := v - 2 }) hp4 hL hO hgu H20
      refine kLet_in ?_
      refine bsplit_dec (fun c6 => ?_) (fun c6 => ?_) --  (decide (r5 = (4 : Int)))
      · refine dNext H15 (i := 0) rfl hR2 hp3 (by omega) fun v p4 w19 f19 hv hp4 H19 => ?_
        have hv := hv (by omega)
        simp only [List.set_cons_zero] at H19
        refine kW_i64 (by omega) ?_
        refine H19.set (i := 1) rfl (by show 11 < 13; decide) ?_; intro w20 H20
        simp only [List.set_cons_succ, List.set_cons_zero] at H20
        exact fin (s' := { s with left := v - 1 }) hp4 hL hO hgu H20
      refine kLet_in ?_
      refine bsplit_dec (fun c5 => ?_) (fun c5 => ?_) --  (decide (r5 = (5 : Int)))
      · refine dNext H15 (i := 0) rfl hR2 hp3 (by omega) fun v p4 w19 f19 hv hp4 H19 => ?_
        have hv := hv (by omega)
        simp only [List.set_cons_zero] at H19
        refine kW_i64 (by omega) ?_
        refine H19.set (i := 1) rfl (by show 9 < 13; decide) ?_; intro w20 H20
        simp only [List.set_cons_succ, List.set_cons_zero] at H20
        exact fin (s' := { s with pieces := v - 1 }) hp4 hL hO hgu H20
      refine kLet_in ?_
      refine bsplit_dec (fun c4 => ?_) (fun c4 => ?_) --  (decide (r5 = (6 : Int)))
      · refine H15.set (i := 1) rfl (by show 12 < 13; decide) ?_; intro w20 H20
        simp only [List.set_cons_succ, List.set_cons_zero] at H20
        exact fin (s' := { s with failed := true }) hp3 hL hO hgu H20
      refine kLet_in ?_
      refine bsplit_dec (fun c3 => ?_) (fun c3 => ?_) --  (decide (r5 = (7 : Int)))
      · -- what was sent of a unit
        refine H15.ldS (i := 1) rfl rfl ?_
        refine bsplit_dec (fun c2 => ?_) (fun c2 => fin hp3 hL hO hgu H15) --  (decide ((x_l : Int) > (0 : Int)))
        refine H15.drew ?_; clear H15; intro w31 H31
        refine ⟨fun z => z < w31.heap.size ∧ z ∉ [g], ?_⟩
        refine ⟨⟨H31.lt (i := 1) rfl rfl, nin1 (H31.ne (i := 1) (j := 0) rfl rfl (by decide) rfl rfl)⟩, ?_⟩
        refine H31.ldS (i := 1) rfl rfl ?_
        refine dNext H31 (i := 0) rfl hR2 hp3 (by omega) fun v p4 w32 f32 hv hp4 H32 => ?_
        have hv := hv (by omega)
        simp only [List.set_cons_zero] at H32
        refine ⟨f32.keeps, ?_⟩
        obtain ⟨k, rfl⟩ := natOf hv.1
        have hkL : k < L.length := by omega
        obtain ⟨g2, hg2, hg3, _⟩ := H32.rowSome (i := 3) rfl (by omega)
        subst hg2
        refine kIx_at ⟨by omega, by omega⟩ ?_
        refine H32.drew ?_; clear H32; intro w33 H33
        simp only [elAd]
        obtain ⟨x, hx⟩ : ∃ x, x = L[k] := ⟨_, rfl⟩
        have hxu : x.u ∈ s.units := by rw [← hL, hx]; exact List.mem_map.2 ⟨_, List.getElem_mem _, rfl⟩
        have hun := (unB_iff.1 (hok.all _ hxu).1).1
        have c2 := H33.cellEl encUP_ok (i := 3) rfl hkL (j := 2) (v := .int .i64 x.u.sent) (by decide) (by rw [← hx]; rfl)
        refine ⟨fun z => z < w33.heap.size ∧ z ∉ [g], ?_⟩
        refine ⟨⟨cell_lt c2, nin1 (H33.ne (i := 3) (j := 0) rfl rfl (by decide) rfl rfl)⟩, ?_⟩
        refine ⟨_, c2, ?_⟩
        refine dNext H33 (i := 0) rfl hR2 hp4 (by omega) fun v p5 w34 f34 hv hp5 H34 => ?_
        have hv := hv (by omega)
        simp only [List.set_cons_zero] at H34
        refine ⟨f34.keeps, ?_⟩
        have hu3 := hun.2.1
        have hu4 := hun.2.2.1
        refine kW_i64 (by omega) ?_
        refine kW_i64 (by omega) ?_
        obtain ⟨z, hz⟩ : ∃ z : UP, z = ⟨{ x.u with sent := x.u.sent + (v - 1) }, x.a, x.c, x.a2, x.c2⟩ := ⟨_, rfl⟩
        refine H34.setEl encUP_ok (i := 3) rfl hkL (j := 2) (by decide) z (by rw [← hx, hz]; rfl) ?_
        clear H34; intro w35 f35 H35
        simp only [List.set_cons_succ, List.set_cons_zero] at H35
        have hOz : OwnDs (L.set k z) D := by
          refine ⟨by simp [hO.1], fun i h1 h2 => ?_⟩
          simp only [List.length_set] at h1
          simp only [List.getElem_set]
          split
          · rename_i hik
            subst hik
            have := hO.2 k h1 h2
            rw [← hx] at this
            rw [hz]; exact this
          · exact hO.2 i h1 h2
        have hmap : (L.set k z).map (·.u) = s.units.set k z.u := by rw [List.map_set, hL]
        have hgz : GU (s.units.set k z.u) := by
          refine gu_of (n := 0) hgu (by omega) (by simp) fun u hu => ?_
          rcases List.mem_or_eq_of_mem_set hu with hu | rfl
          · exact ⟨u, hu, rfl, .inl (Nat.le_refl _)⟩
          · exact ⟨x.u, hxu, by rw [hz], .inl (by rw [hz]; exact Nat.le_refl _)⟩
        have e1 : encS s (some ⟨g2, 0, none⟩) uc = encS { s with units := s.units.set k z.u } (some ⟨g2, 0, none⟩) uc := by simp only [encS, List.length_set]
        rw [e1] at H35
        refine fin (s' := { s with units := s.units.set k z.u }) hp5 hmap hOz hgz (H35.imp fun _ h => ⟨h.1, fun y hy => ?_, h.2.2⟩)
        rcases List.mem_or_eq_of_mem_set hy with hy | rfl
        · exact h.2.1 y hy
        · rw [hz]; exact h.2.1 x (by rw [hx]; exact List.getElem_mem _)
      · -- a further range
        refine H15.ldS (i := 1) rfl rfl ?_
        refine bsplit_dec (fun c2 => ?_) (fun c2 => fin hp3 hL hO hgu H15) --  (decide ((x_l : Int) > (0 : Int)))
        refine H15.drew ?_; clear H15; intro w31 H31
        refine ⟨fun z => z < w31.heap.size ∧ z ∉ [g], ?_⟩
        refine ⟨⟨H31.lt (i := 1) rfl rfl, nin1 (H31.ne (i := 1) (j := 0) rfl rfl (by decide) rfl rfl)⟩, ?_⟩
        refine H31.ldS (i := 1) rfl rfl ?_
        refine dNext H31 (i := 0) rfl hR2 hp3 (by omega) fun v p4 w32 f32 hv hp4 H32 => ?_
        have hv := hv (by omega)
        simp only [List.set_cons_zero] at H32
        refine ⟨f32.keeps, ?_⟩
        obtain ⟨k, rfl⟩ := natOf hv.1
        have hkL : k < L.length := by omega
        obtain ⟨g2, hg2, hg3, _⟩ := H32.rowSome (i := 3) rfl (by omega)
        subst hg2
        refine kIx_at ⟨by omega, by omega⟩ ?_
        refine H32.drew ?_; clear H32; intro w38 H38
        simp only [add_mk, Nat.zero_add, Int.toNat_natCast]
        obtain ⟨x, hx⟩ : ∃ x, x = L[k] := ⟨_, rfl⟩
        have hxu : x.u ∈ s.units := by rw [← hL, hx]; exact List.mem_map.2 ⟨_, List.getElem_mem _, rfl⟩
        have hal := (unB_lens (hok.all _ hxu).1).1
        have hkD : k < D.length := by rw [hO.1]; exact hkL
        obtain ⟨y, hy⟩ : ∃ y, y = D[k] := ⟨_, rfl⟩
        obtain ⟨n, hn1, hn, hag, ha2, hc2⟩ := hO.2 k hkL hkD
        rw [← hy] at hn
        rw [← hx, ← hy] at hag ha2 hc2
        have c4 := H38.cellEl encUP_ok (i := 3) rfl hkL (j := 4) (v := .slice x.a2 x.u.again.length x.c2) (by decide) (by rw [← hx]; rfl)
        have c0 := H38.cellEl encUP_ok (i := 3) rfl hkL (j := 0) (v := .int .i64 x.u.sn) (by decide) (by rw [← hx]; rfl)
        refine ⟨fun z => z < w38.heap.size ∧ z ∉ [g], ?_⟩
        have hg2S := nin1 (H38.ne (i := 3) (j := 0) rfl rfl (by decide) rfl rfl)
        refine ⟨⟨cell_lt c4, hg2S⟩, ?_⟩
        refine ⟨_, _, _, c4, ?_⟩
        refine ⟨⟨cell_lt c4, hg2S⟩, ?_⟩
        refine ⟨_, c0, ?_⟩
        refine dNext H38 (i := 0) rfl hR2 hp4 (by omega) fun v1 p5 w39 f39 hv1 hp5 H39 => ?_
        simp only [List.set_cons_zero] at H39
        refine ⟨f39.keeps, ?_⟩
        refine dNext H39 (i := 0) rfl hR2 hp5 (by omega) fun v2 p6 w40 f40 hv2 hp6 H40 => ?_
        simp only [List.set_cons_zero] at H40
        have f40' := f39.tr f40 (by simp)
        refine ⟨f40'.keeps, ?_⟩
        refine ⟨f40'.keeps, ?_⟩
        refine H40.allocB ?_; intro lit w41 hb41 H41
        have f41 := f40'.tr (hb41.fr []) (by simp)
        refine ⟨f41.keeps, ?_⟩
        have hdrop : y.all.length - n = x.u.again.length := by rw [hag, List.length_drop]
        have hidx : ((dice g ta tc ts p6 :: .blk b Ty_api_Sender (encS s (some ⟨g2, 0, none⟩) uc) :: .blk b1 Ty_api_Status [.int .i64 r.upto, .slice ma r.miss.length mc] :: .els encUP Ty_api_Unit 5 (some ⟨g2, 0, none⟩) uc L :: D.map resD) : List Res)[k + 4]? = some (resD y) := by
          show (D.map resD)[k]? = _
          rw [List.getElem?_map, List.getElem?_eq_getElem hkD, ← hy]; rfl
        have hidx2 : ∀ r' : Res, ((dice g ta tc ts p6 :: .blk b Ty_api_Sender (encS s (some ⟨g2, 0, none⟩) uc) :: .blk b1 Ty_api_Status [.int .i64 r.upto, .slice ma r.miss.length mc] :: .els encUP Ty_api_Unit 5 (some ⟨g2, 0, none⟩) uc L :: D.map resD) ++ [r'])[k + 4]? = some (resD y) := fun r' => by
          rw [List.getElem?_append_left (by simp; omega)]; exact hidx
        obtain ⟨q, hq⟩ : ∃ q : Rg, q = ⟨x.u.sn, v1, v2⟩ := ⟨_, rfl⟩
        -- behind the append
        have fin2 : ∀ (y' : DP) (n' : Nat) (w42 : World), n' ≤ 1 → n' ≤ y'.all.length → y'.all.drop n' = x.u.again ++ [q] →
            St (All w) [] w w42 (dice g ta tc ts p6 :: .blk b Ty_api_Sender (encS s (some ⟨g2, 0, none⟩) uc) :: .blk b1 Ty_api_Status [.int .i64 r.upto, .slice ma r.miss.length mc] :: .els encUP Ty_api_Unit 5 (some ⟨g2, 0, none⟩) uc L :: (D.set k y').map resD) (fun w => SlR (CE encR) 3 w ma r.miss ∧ Dat0 L w ∧ SlR (IntC .i64) 1 w ta ts ∧ True) →
            kSet w42 ⟨g2, k * 5 + 4, none⟩ (.slice (slAddr y'.c0 n' 3 y'.a0) (x.u.again.length + 1) (y'.c0 - n')) fun w43 => ∃ (s : Sd) (ua : Option Addr) (uc p' : Nat), GU s.units ∧ p' ≤ ts.length ∧ St (All w) [] w w43 [dice g ta tc ts p', .blk b Ty_api_Sender (encS s ua uc), .blk b1 Ty_api_Status [.int .i64 r.upto, .slice ma r.miss.length mc]]
              (fun w => UnR w ua s.units ∧ SlR (CE encR) 3 w ma r.miss ∧ SlR (IntC .i64) 1 w ta ts ∧ True) := fun y' n' w42 hn1' hn' hd' H42 => by
          obtain ⟨z, hz⟩ : ∃ z : UP, z = ⟨{ x.u with again := x.u.again ++ [q] }, x.a, x.c, slAddr y'.c0 n' 3 y'.a0, y'.c0 - n'⟩ := ⟨_, rfl⟩
          refine H42.setEl encUP_ok (i := 3) rfl hkL (j := 4) (by decide) z (by rw [← hx, hz]; simp only [encUP, encU, List.length_append, List.length_cons, List.length_nil]; rfl) ?_
          intro w43 f43 H43
          simp only [List.set_cons_succ, List.set_cons_zero] at H43
          have hmap : (L.set k z).map (·.u) = s.units.set k z.u := by rw [List.map_set, hL]
          have hgz : GU (s.units.set k z.u) := by
            refine gu_of (n := 5000) hgu (by omega) (by simp) fun u hu => ?_
            rcases List.mem_or_eq_of_mem_set hu with hu | rfl
            · exact ⟨u, hu, rfl, .inl (Nat.le_refl _)⟩
            · exact ⟨x.u, hxu, by rw [hz], .inr (by rw [hz]; simp; omega)⟩
          have e1 : encS s (some ⟨g2, 0, none⟩) uc = encS { s with units := s.units.set k z.u } (some ⟨g2, 0, none⟩) uc := by simp only [encS, List.length_set]
          rw [e1] at H43
          refine fin (s' := { s with units := s.units.set k z.u }) hp6 hmap (ownDs_set hO (y := y') ⟨n', hn1', hn', by rw [hz]; exact hd'.symm, by rw [hz], by rw [hz]⟩) hgz (H43.imp fun _ h => ⟨h.1, fun y hy => ?_, h.2.2⟩)
          rcases List.mem_or_eq_of_mem_set hy with hy | rfl
          · exact h.2.1 y hy
          · rw [hz]; exact h.2.1 x (by rw [hx]; exact List.getElem_mem _)
        have hset : ∀ (y' : DP), (dice g ta tc ts p6 :: .blk b Ty_api_Sender (encS s (some ⟨g2, 0, none⟩) uc) :: .blk b1 Ty_api_Status [.int .i64 r.upto, .slice ma r.miss.length mc] :: .els encUP Ty_api_Unit 5 (some ⟨g2, 0, none⟩) uc L :: D.map resD : List Res).set (k + 4) (resD y') = dice g ta tc ts p6 :: .blk b Ty_api_Sender (encS s (some ⟨g2, 0, none⟩) uc) :: .blk b1 Ty_api_Status [.int .i64 r.upto, .slice ma r.miss.length mc] :: .els encUP Ty_api_Unit 5 (some ⟨g2, 0, none⟩) uc L :: (D.set k y').map resD := fun y' => by
          simp only [List.set_cons_succ, List.map_set]
        by_cases hz : y.all = []
        · have hn0 : n = 0 := by rw [hz] at hn; simpa using hn
          subst hn0
          rw [slAddr0] at ha2
          rw [Nat.sub_zero] at hc2
          have hag0 : x.u.again = [] := by rw [hag, hz]; rfl
          rw [ha2, hc2, hag0]
          have hidx' : ((dice g ta tc ts p6 :: .blk b Ty_api_Sender (encS s (some ⟨g2, 0, none⟩) uc) :: .blk b1 Ty_api_Status [.int .i64 r.upto, .slice ma r.miss.length mc] :: .els encUP Ty_api_Unit 5 (some ⟨g2, 0, none⟩) uc L :: D.map resD) : List Res)[k + 4]? = some (.els encR Ty_api_Range 3 y.a0 y.c0 []) := by
            rw [hidx]; unfold resD; rw [hz]
          refine St.appEL [q] (by rw [hq]; exact H41) encR_ok hidx' sl_Ty_S_api_Range rfl (by simp) (by simp) ?_
          intro a' c' w42 H42
          have H42' := H42
          rw [show (Res.els encR Ty_api_Range 3 a' c' ([] ++ [q])) = resD ⟨a', c', [q]⟩ from rfl, hset] at H42'
          have := fin2 ⟨a', c', [q]⟩ 0 w42 (Nat.zero_le _) (Nat.zero_le _) (by rw [hag0]; rfl) H42'
          rw [slAddr0, Nat.sub_zero, hag0] at this
          exact this
        · have hpos : 0 < y.all.length := List.length_pos_iff.2 hz
          obtain ⟨gy, hgy, _, _⟩ := H41.rowSome (hidx2 _) hpos
          have hle : y.all.length ≤ 1000000 := by omega
          rw [ha2, hc2, ← hdrop]
          have hidx3 := hidx2 (.blk lit Ty_api_Range [.int .i64 x.u.sn, .int .i64 v1, .int .i64 v2])
          unfold resD at hidx3
          rw [hgy] at hidx3 ⊢
          refine St.appDead H41 encR_ok hidx3 n hn q (by rw [hq]; exact last_at _ _) sl_Ty_S_api_Range hle (by decide) ?_
          intro a0 c0 all' n' w42 hnn hn' hd' H42
          have e7 : ∀ (X : List Res) (r1 r2 : Res) (i : Nat), i < X.length → (X ++ [r1]).set i r2 = X.set i r2 ++ [r1] := fun X r1 r2 i h => List.set_append_left _ _ h
          have H43 := H42
          rw [e7 _ _ _ _ (by simp; omega)] at H43
          have H44 := H43.dropLast
          rw [show (Res.els encR Ty_api_Range 3 a0 c0 all') = resD ⟨a0, c0, all'⟩ from rfl, hset] at H44
          rw [hdrop]
          exact fin2 ⟨a0, c0, all'⟩ n' w42 (by omega) hn' (by rw [hd', ← hag]) H44
  · refine made_One_ct H9 (i := 0) rfl ((hR0.and _).and _) hp2 (by omega) fun v p3 w10 _ hp3 H10 => ?_
    simp only [List.set_cons_zero] at H10
    clear H9
    refine bsplit_intro (fun c1 => ?_) (fun c1 => ⟨r, ma, mc, p3, by omega, hp3, H10⟩)
    refine H10.ld (i := 1) (x := s.lk.bits) rfl rfl ?_
    refine (statusF H10 (i := 0) rfl ((hR0.and _).and _) hp3 hb).mono ?_
    rintro _ w11 ⟨r2, ma2, mc2, p4, rfl, hml2, hp4, H11⟩
    simp only [List.set_cons_zero] at H11
    refine ⟨_, _, _, _, rfl, ?_⟩
    refine H11.store (i := 2) rfl (by rfl) (by rfl) ?_; intro w12 H12
    simp only [List.set_cons_succ, List.set_cons_zero] at H12
    exact ⟨r2, ma2, mc2, p4, by omega, hp4, H12.imp fun _ h => ⟨h.1, h.2.2⟩⟩
end Go.Proofs.Ytmhggobilcmdmaa
