import Derived.Test.YtblfbanfepocnaaDoorW13d
namespace Go.Proofs.YtblfbanfepocnaaDoor
open Go.Sx Go.RowKit

theorem _root_.Go.Sx.OwnI.cap {w : World} {base : Nat} {e : TypeId} {k : IntKind} {a : Option Addr} {n c : Nat} {zs : List Int} (h : OwnI w base e k a n c zs) : n ≤ c := by
  rcases h.2.2 with ⟨h1, h2⟩ | ⟨g, cap, cur, hv, _, _, hnc, _⟩
  · omega
  · injection hv with _ _ hc; omega

/-! ## Filled -/
def fillL (seed : Int) : Nat → List Int
  | 0 => []
  | i + 1 => fillL seed i ++ [IntKind.wrap .u8 (IntKind.wrap .i64 (IntKind.wrap .i64 (seed + IntKind.wrap .i64 (7 * (i : Int))) + IntKind.wrap .i64 (Int.tdiv (i : Int) 16)))]
theorem fillL_length (seed : Int) : ∀ n, (fillL seed n).length = n
  | 0 => rfl
  | n + 1 => by rw [fillL, List.length_append, fillL_length seed n]; rfl
theorem fillL_bytes (seed : Int) : ∀ n, Bytes (fillL seed n)
  | 0 => fun i hi => by simp [fillL] at hi
  | n + 1 => (fillL_bytes seed n).append (by intro i hi; simp at hi; subst hi; exact u8_range _)
theorem filled_ok (n : Nat) (hn : n ≤ 1000) (seed : Int) (w : World) :
    Calls Tryd.prog N_made_Filled #[.int .i64 n, .int .i64 seed] w fun e w' => ∃ a' c', e = .returned (.slice a' n c') ∧ OwnI w' w.heap.size Ty_uint8 .u8 a' n c' (fillL seed n) ∧ Below w.heap.size w w' := by
  apply F_made_Filled_ok
  unfold F_made_Filled
  refine ⟨fun oa ol oc x => ((n - x).toNat, fun w1 => ∃ k : Nat, x = k ∧ k ≤ n ∧ ol = k ∧ OwnI w1 w.heap.size Ty_uint8 .u8 oa k oc (fillL seed k) ∧ Below w.heap.size w w1), ⟨0, rfl, by omega, rfl, OwnI.nil_ .., .refl _ _⟩, ?_⟩
  rintro _ oa ol oc x w1 ⟨k, rfl, hk, rfl, ho, hb⟩
  refine bsplit_dec (fun hlt => ?_) (fun hge => ?_)
  · refine ho.app1 sl_Ty_S_uint8 (by omega) (by omega) hb.size fun a' c' w7 ho' hbl _ _ _ => ?_
    intro i1
    have e1 : i1 = ((ol + 1 : Nat) : Int) := by simp only [i1]; rw [wrap_id _ (by omega)]; omega
    rw [e1]
    exact ⟨⟨ol + 1, rfl, by omega, rfl, ho', hbl _ _ hb (Nat.le_refl _)⟩, by simp; omega⟩
  · obtain rfl : ol = n := by omega
    exact ⟨oa, oc, rfl, ho, hb⟩

/-! ## Xor -/
def xorAt (key nonce b : List Int) (i : Nat) : Int := bXor .u8 (b.getD i 0) ((blockL key ((i / 64 : Nat) : Int) nonce).getD (i % 64) 0)
def xorL (key nonce b : List Int) (n : Nat) : List Int := (List.range n).map (xorAt key nonce b)
def xorE (key nonce b : List Int) : Int := if key.length ≠ 32 then 9 else if nonce.length ≠ 12 ∨ 4096 < b.length then 2 else 0
def xorR (key nonce b : List Int) : List Int := if xorE key nonce b = 0 then xorL key nonce b b.length else []
theorem xorL_length (key nonce b : List Int) (n : Nat) : (xorL key nonce b n).length = n := by simp [xorL]
theorem xorL_succ (key nonce b : List Int) (n : Nat) : xorL key nonce b (n + 1) = xorL key nonce b n ++ [xorAt key nonce b n] := by simp [xorL, List.range_succ]
theorem xorL_bytes (key nonce b : List Int) (n : Nat) : Bytes (xorL key nonce b n) := by
  intro i hi
  simp only [xorL, List.getElem_map]
  exact u8_range _
theorem xorR_bytes (key nonce b : List Int) : Bytes (xorR key nonce b) := by
  unfold xorR; split
  · exact xorL_bytes _ _ _ _
  · exact fun i hi => by simp at hi
theorem blkR_bytes (key : List Int) (ctr : Int) (nonce : List Int) : Bytes (blkR key ctr nonce) := by
  unfold blkR; split
  · exact outL_bytes _ _
  · exact fun i hi => by simp at hi
theorem arrN_list (n : Nat) (s : Nat → Int) : arrN .u8 n s = (((List.range n).map s).map (Value.int .u8)).toArray := by
  simp [arrN, Function.comp_def]
/-- a block that is known whole, as a row of the call's own -/
theorem OwnI.ofBlk {w : World} {g base : Nat} {e : TypeId} {k : IntKind} {zs : List Int} (h : Blk w g e (zs.map (Value.int k)).toArray) (hb : base ≤ g) (hm : zs.length ≤ maxLen) : OwnI w base e k (some ⟨g, 0, none⟩) zs.length zs.length zs :=
  ⟨rfl, by simp, .inr ⟨g, zs.length, _, rfl, hb, h, Nat.le_refl _, hm, by simp, List.take_of_length_le (by simp)⟩⟩
theorem tmod64 (k : Nat) : Int.tmod (k : Int) 64 = ((k % 64 : Nat) : Int) := rfl
theorem tdiv64 {k : Nat} (h : k ≤ 100000) : IntKind.wrap .i64 (Int.tdiv (k : Int) 64) = ((k / 64 : Nat) : Int) := by
  have : Int.tdiv (k : Int) 64 = ((k / 64 : Nat) : Int) := rfl
  rw [this, wrap_id _ (by omega)]

section
variable {ka na ba : Option Addr} {kc nc bc : Nat} {key nonce b : List Int} {w : World}
theorem xor_ok (hk : SlR (IntC .u8) 1 w ka key) (hn : SlR (IntC .u8) 1 w na nonce) (hb : SlR (IntC .u8) 1 w ba b) (hkc : key.length ≤ kc) (hnc : nonce.length ≤ nc) (hT : LaneT w) :
    Calls Tryd.prog N_stream_Xor #[.slice ka key.length kc, .slice na nonce.length nc, .slice ba b.length bc] w (BOut w (xorR key nonce b) (xorE key nonce b)) := by
  apply F_stream_Xor_ok
  unfold F_stream_Xor
  refine (sized_ok (w := w) (key := key) (nonce := nonce)).mono ?_
  rintro _ w1 ⟨rfl, rfl⟩
  refine ⟨_, rfl, bsplit_intro (fun h => ?_) (fun h => ?_)⟩
  · by_cases h1 : key.length = 32
    · by_cases h2 : nonce.length = 12
      · simp [h1, h2] at h
      · have hE : xorE key nonce b = 2 := by unfold xorE; rw [if_neg (by omega), if_pos (.inl h2)]
        rw [if_neg (by omega), if_pos h2]
        exact .bad (by unfold xorR; rw [if_neg (by omega)]) hE
    · have hE : xorE key nonce b = 9 := by unfold xorE; rw [if_pos h1]
      rw [if_pos h1]
      exact .bad (by unfold xorR; rw [if_neg (by omega)]) hE
  have h1 : key.length = 32 := by
    by_cases h1 : key.length = 32
    · exact h1
    · rw [if_pos h1] at h; simp at h
  have h2 : nonce.length = 12 := by
    by_cases h2 : nonce.length = 12
    · exact h2
    · rw [if_neg (by omega), if_pos h2] at h; simp at h
  refine bsplit_dec (fun hl => ?_) (fun hl => ?_)
  · have hE : xorE key nonce b = 2 := by unfold xorE; rw [if_neg (by omega), if_pos (by omega)]
    exact .bad (by unfold xorR; rw [if_neg (by omega)]) hE
  have hE : xorE key nonce b = 0 := by unfold xorE; rw [if_neg (by omega), if_neg (by omega)]
  have hR : xorR key nonce b = xorL key nonce b b.length := by unfold xorR; rw [if_pos hE]
  rw [hE, hR]
  refine ⟨⟨by omega, by omega, by omega, by omega⟩, ?_⟩
  rw [Int.toNat_natCast]
  intro w2
  have hO2 : Blk w2 w1.heap.size Ty_uint8 (arrN .u8 b.length fun j => if j < 0 then xorAt key nonce b j else 0) := by
    have h0 : Blk w2 w1.heap.size Ty_uint8 (madeCells #[Value.int .u8 0] (b.length * 1)) := Blk.new w1 Ty_uint8 _
    have : madeCells #[Value.int .u8 0] (b.length * 1) = arrN .u8 b.length fun j => if j < 0 then xorAt key nonce b j else 0 := by
      apply Array.ext'
      rw [Nat.mul_one, toList_madeCells_one]
      apply List.ext_getElem?
      intro j
      by_cases hj : j < b.length
      · simp [arrN, hj]
      · simp [arrN, hj]
    rw [this] at h0
    exact h0
  have b2 : Below w1.heap.size w1 w2 := (Below.refl _ _).alloc (Nat.le_refl _) _
  clear_value w2
  refine ⟨fun oa ol oc x => ((b.length - x).toNat, fun w3 => ∃ k : Nat, x = k ∧ k ≤ b.length ∧ Blk w3 w1.heap.size Ty_uint8 (arrN .u8 b.length fun j => if j < k then xorAt key nonce b j else 0) ∧
    (k = 0 ∨ (ol = 64 ∧ OwnI w3 (w1.heap.size + 1) Ty_uint8 .u8 oa 64 oc (blockL key (((k - 1) / 64 : Nat) : Int) nonce))) ∧ Below w1.heap.size w1 w3), ⟨0, rfl, by omega, hO2, .inl rfl, b2⟩, ?_⟩
  clear hO2 b2 w2
  rintro _ oa ol oc x w3 ⟨k, rfl, hk3, hO3, hnow, b3⟩
  refine bsplit_dec (fun hlt => ?_) (fun hge => ?_)
  · have hlt : k < b.length := by omega
    obtain ⟨p, rfl, hp⟩ := (hb.below b3).get hlt
    refine ⟨p, rfl, ⟨by omega, by omega⟩, _, hp, ?_⟩
    rw [tmod64]
    -- the end of a round
    have fin : ∀ {w4 : World} {ra : Option Addr} {rc : Nat}, Blk w4 w1.heap.size Ty_uint8 (arrN .u8 b.length fun j => if j < k then xorAt key nonce b j else 0) → OwnI w4 (w1.heap.size + 1) Ty_uint8 .u8 ra 64 rc (blockL key ((k / 64 : Nat) : Int) nonce) → Below w1.heap.size w1 w4 →
        ∀ w5, w5 = w4.setCell ⟨w1.heap.size, k, none⟩ (.int .u8 (xorAt key nonce b k)) →
        (∃ k' : Nat, (k : Int) + 1 = k' ∧ k' ≤ b.length ∧ Blk w5 w1.heap.size Ty_uint8 (arrN .u8 b.length fun j => if j < k' then xorAt key nonce b j else 0) ∧
          (k' = 0 ∨ (64 = 64 ∧ OwnI w5 (w1.heap.size + 1) Ty_uint8 .u8 ra 64 rc (blockL key (((k' - 1) / 64 : Nat) : Int) nonce))) ∧ Below w1.heap.size w1 w5) ∧ ((b.length : Int) - (k + 1)).toNat < ((b.length : Int) - k).toNat := by
      rintro w4 ra rc hO hn' hb4 _ rfl
      refine ⟨⟨k + 1, by omega, by omega, ?_, .inr ⟨rfl, ?_⟩, hb4.setCell (Nat.le_refl _) _⟩, by omega⟩
      · have := hO.set k (.int .u8 (xorAt key nonce b k))
        rw [arrN_set] at this
        refine (arrN_congr fun j hj => ?_) ▸ this
        by_cases hjk : j = k
        · subst hjk; rw [if_pos rfl, if_pos (by omega)]
        · rw [if_neg hjk]
          by_cases h5 : j < k
          · rw [if_pos h5, if_pos (by omega)]
          · rw [if_neg h5, if_neg (by omega)]
      · rw [show k + 1 - 1 = k by omega]
        exact hn'.far (fun e => by have := (hn'.lt e).1; simp at this; omega) _
    have xv : ∀ y : Int, y = (blockL key ((k / 64 : Nat) : Int) nonce).getD (k % 64) 0 → bXor .u8 b[k] y = xorAt key nonce b k := fun y hy => by
      unfold xorAt; rw [getD_at hlt, hy]
    have hbl := blockL_length key ((k / 64 : Nat) : Int) nonce
    have ad : (nb w1).add ((k : Int).toNat * 1) = ⟨w1.heap.size, k, none⟩ := by rw [nb_add, Int.toNat_natCast, Nat.mul_one]
    refine bsplit_intro (fun h0 => ?_) (fun h0 => ?_)
    · rw [tdiv64 (by omega)]
      refine (block_ok (hk.below b3) (hn.below b3) h1 h2 (by omega) (by omega) (hT.below b3)).mono ?_
      rintro _ w4 ⟨ra, rc, rfl, ho4, b4⟩
      obtain ⟨q, rfl, hq⟩ := ho4.sl.get (i := k % 64) (by rw [hbl]; omega)
      have hO4 := hO3.below b4 hO3.lt
      refine ⟨_, _, _, rfl, q, rfl, ⟨by omega, by omega⟩, _, by rw [Int.toNat_natCast]; exact hq, nb w1, rfl, ⟨by omega, by omega⟩, ?_, ?_, ?_⟩
      · rw [ad]; exact hO4.has (by rw [arrN_size]; omega)
      · rw [ad]; exact hO4.frozen _
      intro w5
      rw [wrap_id ((k : Int) + 1) (by omega)]
      refine fin hO4 (ho4.weaken (by have := hO3.lt; omega)) (below_step b3 (Nat.le_refl _) b4) w5 ?_
      simp only [w5]
      rw [ad, xv _ (by rw [getD_at (by rw [hbl]; omega)])]
    · have hk0 : k % 64 ≠ 0 := by simp at h0; omega
      rcases hnow with h' | ⟨rfl, ho⟩
      · omega
      rw [show (k - 1) / 64 = k / 64 by omega] at ho
      obtain ⟨q, rfl, hq⟩ := ho.sl.get (i := k % 64) (by rw [hbl]; omega)
      refine ⟨q, rfl, ⟨by omega, by omega⟩, _, by rw [Int.toNat_natCast]; exact hq, nb w1, rfl, ⟨by omega, by omega⟩, ?_, ?_, ?_⟩
      · rw [ad]; exact hO3.has (by rw [arrN_size]; omega)
      · rw [ad]; exact hO3.frozen _
      intro w5
      rw [wrap_id ((k : Int) + 1) (by omega)]
      refine fin hO3 ho b3 w5 ?_
      simp only [w5]
      rw [ad, xv _ (by rw [getD_at (by rw [hbl]; omega)])]
  · obtain rfl : k = b.length := by omega
    have hO : Blk w3 w1.heap.size Ty_uint8 ((xorL key nonce b b.length).map (Value.int .u8)).toArray := by
      have : arrN .u8 b.length (fun j => if j < b.length then xorAt key nonce b j else 0) = arrN .u8 b.length (xorAt key nonce b) := arrN_congr fun j hj => by rw [if_pos hj]
      rw [this, arrN_list] at hO3
      exact hO3
    have := OwnI.ofBlk hO (Nat.le_refl _) (by rw [xorL_length]; unfold maxLen; omega)
    rw [xorL_length] at this
    exact ⟨some (nb w1), b.length, by rw [xorL_length], by rw [xorL_length]; exact this, b3⟩

theorem refXor_ok (hk : SlR (IntC .u8) 1 w ka key) (hn : SlR (IntC .u8) 1 w na nonce) (hb : SlR (IntC .u8) 1 w ba b) (hkc : key.length ≤ kc) (hnc : nonce.length ≤ nc) :
    Calls Tryd.prog N_ref13_Xor #[.slice ka key.length kc, .slice na nonce.length nc, .slice ba b.length bc] w (BOut w (xorR key nonce b) (xorE key nonce b)) := by
  apply F_ref13_Xor_ok
  unfold F_ref13_Xor
  refine bsplit_intro (fun h => ?_) (fun h => ?_)
  · have h1 : key.length ≠ 32 := by simp at h; omega
    have hE : xorE key nonce b = 9 := by unfold xorE; rw [if_pos h1]
    exact .bad (by unfold xorR; rw [if_neg (by omega)]) hE
  have h1 : key.length = 32 := by simp at h; omega
  refine ⟨fun w1 => w1 = w ∧ nonce.length = 12 ∧ b.length ≤ 4096, ?_, ?_⟩
  · rintro _ w1 ⟨rfl, h2, hl⟩
    have hE : xorE key nonce b = 0 := by unfold xorE; rw [if_neg (by omega), if_neg (by omega)]
    have hR : xorR key nonce b = xorL key nonce b b.length := by unfold xorR; rw [if_pos hE]
    rw [hE, hR]
    refine ⟨fun oa ol oc qa ql qc x => ((b.length - x).toNat, fun w2 => ∃ k : Nat, x = k ∧ k ≤ b.length ∧ ol = k ∧ OwnI w2 w1.heap.size Ty_uint8 .u8 oa k oc (xorL key nonce b k) ∧
      (k = 0 ∨ (ql = 64 ∧ OwnI w2 w1.heap.size Ty_uint8 .u8 qa 64 qc (blockL key (((k - 1) / 64 : Nat) : Int) nonce) ∧ ∀ g, ob qa = some g → ob oa ≠ some g)) ∧ Below w1.heap.size w1 w2), ⟨0, rfl, by omega, rfl, OwnI.nil_ .., .inl rfl, .refl _ _⟩, ?_⟩
    rintro _ oa ol oc qa ql qc x w2 ⟨k, rfl, hk3, rfl, ho2, hnow, b2⟩
    refine bsplit_dec (fun hlt => ?_) (fun hge => ?_)
    · have hlt : ol < b.length := by omega
      have hbl := blockL_length key ((ol / 64 : Nat) : Int) nonce
      refine ⟨fun qa1 ql1 qc1 w4 => ql1 = 64 ∧ OwnI w4 w1.heap.size Ty_uint8 .u8 qa1 64 qc1 (blockL key ((ol / 64 : Nat) : Int) nonce) ∧ (∀ g, ob qa1 = some g → ob oa ≠ some g) ∧ OwnI w4 w1.heap.size Ty_uint8 .u8 oa ol oc (xorL key nonce b ol) ∧ Below w1.heap.size w1 w4, ?_, ?_⟩
      · rintro _ qa1 ql1 qc1 w4 ⟨rfl, hq4, hdis, ho4, b4⟩
        intro w5
        have hq5 : OwnI w5 w1.heap.size Ty_uint8 .u8 qa1 64 qc1 (blockL key ((ol / 64 : Nat) : Int) nonce) := hq4
        have ho5 : OwnI w5 w1.heap.size Ty_uint8 .u8 oa ol oc (xorL key nonce b ol) := ho4
        have b5 : Below w1.heap.size w1 w5 := b4.drew
        clear_value w5
        obtain ⟨p, rfl, hp⟩ := (hb.below b5).get hlt
        obtain ⟨q, hqq, hq⟩ := hq5.sl.get (i := ol % 64) (by rw [hbl]; omega)
        subst hqq
        rw [tmod64]
        have xv : bXor .u8 b[ol] (blockL key ((ol / 64 : Nat) : Int) nonce)[ol % 64] = xorAt key nonce b ol := by
          unfold xorAt; rw [getD_at hlt, getD_at (by rw [hbl]; omega)]
        have hpl : ∀ j, (p.add j).block < w1.heap.size := fun j => by
          obtain ⟨p', hp', hpc⟩ := hb.get hlt
          injection hp' with hp'
          subst hp'
          have := cell_lt hpc
          rw [add_block] at this ⊢
          exact this
        have hS1 : ∀ j, (p.add j).block < w5.heap.size ∧ ob oa ≠ some (p.add j).block := fun j => ⟨Nat.lt_of_lt_of_le (hpl j) b5.size, fun e => by have := (ho5.lt e).1; have := hpl j; omega⟩
        have hS2 : ∀ j, (q.add j).block < w5.heap.size ∧ ob oa ≠ some (q.add j).block := fun j => by
          have hql : ob (some q) = some q.block := rfl
          rw [add_block]
          exact ⟨(hq5.lt hql).2, hdis _ hql⟩
        refine ⟨fun g => g < w5.heap.size ∧ ob oa ≠ some g, p, rfl, ⟨by omega, by omega⟩, hS1 _, _, hp, q, rfl, ⟨by omega, by omega⟩, hS2 _, _, by rw [Int.toNat_natCast]; exact hq, ?_⟩
        rw [xv]
        intro w6
        refine ⟨fun p u hp hc => by rw [World.cell?_of_block (Below.heap_alloc w5 _ _ hp.1)]; exact hc, ?_⟩
        refine ho5.app1 sl_Ty_S_uint8 (by omega) (by omega) b5.size fun a' c' w7 ho' hbl' hh hob hsz => ?_
        refine ⟨fun p u hp hc => by rw [World.cell?_of_block (hh _ hp.2 hp.1)]; exact hc, ?_⟩
        intro i1
        have e1 : i1 = ((ol + 1 : Nat) : Int) := by simp only [i1]; rw [wrap_id _ (by omega)]; omega
        rw [e1]
        refine ⟨⟨ol + 1, rfl, by omega, rfl, ?_, .inr ⟨rfl, ?_, fun g hg hg2 => ?_⟩, hbl' _ _ b5 (Nat.le_refl _)⟩, by simp; omega⟩
        · rw [xorL_succ]; exact ho'
        · rw [show ol + 1 - 1 = ol by omega]
          exact hq5.keep fun g hg => hh g (hdis g hg) (hq5.lt hg).2
        · rcases hob with h' | h'
          · exact hdis g hg (h' ▸ hg2)
          · have := (hq5.lt hg).2; rw [h'] at hg2; injection hg2 with hg2; omega
      · rw [tmod64]
        refine bsplit_intro (fun h0 => ?_) (fun h0 => ?_)
        · rw [tdiv64 (by omega)]
          refine (refBlock_ok (ctr := ((ol / 64 : Nat) : Int)) (hk.below b2) (hn.below b2) hkc hnc).mono ?_
          have hbE : blkE key ((ol / 64 : Nat) : Int) nonce = 0 := by unfold blkE; rw [if_neg (by omega), if_neg (by omega), if_neg (by omega)]
          have hbR : blkR key ((ol / 64 : Nat) : Int) nonce = blockL key ((ol / 64 : Nat) : Int) nonce := by unfold blkR; rw [if_pos hbE]
          rw [hbE, hbR]
          rintro _ w3 ⟨ra, rc, rfl, hr3, b3⟩
          rw [blockL_length] at hr3 ⊢
          refine ⟨_, _, _, _, rfl, rfl, hr3.weaken b2.size, fun g hg hg2 => ?_, ho2.below b3 (Nat.le_refl _), below_step b2 (Nat.le_refl _) b3⟩
          have := (hr3.lt hg).1
          have := (ho2.lt hg2).2
          omega
        · have hk0 : ol % 64 ≠ 0 := by simp at h0; omega
          rcases hnow with h' | ⟨rfl, hq, hdis⟩
          · omega
          rw [show (ol - 1) / 64 = ol / 64 by omega] at hq
          exact ⟨rfl, hq, hdis, ho2, b2⟩
    · obtain rfl : ol = b.length := by omega
      exact ⟨oa, oc, by rw [xorL_length], by rw [xorL_length]; exact ho2, b2⟩
  · have bad : (nonce.length ≠ 12 ∨ 4096 < b.length) → BOut w (xorR key nonce b) (xorE key nonce b) (.returned (.tuple #[.slice none 0 0, .int .i64 2])) w := fun hc => by
      have hE : xorE key nonce b = 2 := by unfold xorE; rw [if_neg (by omega), if_pos hc]
      exact .bad (by unfold xorR; rw [if_neg (by omega)]) hE
    refine bsplit_intro (fun h => bad (.inl (by simp at h; omega))) (fun h => ?_)
    exact bsplit_dec (fun h => bad (.inr (by omega))) (fun h' => ⟨rfl, by simp at h; omega, by omega⟩)
end
end Go.Proofs.YtblfbanfepocnaaDoor
