import Derived.Test.YteoogdpjidbapaaW01c
namespace Go.Proofs.Yteoogdpjidbapaa
open Go.Sx Go.RowKit
theorem WrOut.sl {w w' : World} {L : List Int} {E : Int} {e : Ending} (h : WrOut w L E e w') : ∃ a' c', e = .returned (.tuple #[.slice a' L.length c', .int .i64 E]) ∧ SlR (IntC .u8) 1 w' a' L ∧ Below w.heap.size w w' := by
  obtain ⟨a', c', he, ho, hb⟩ := h
  exact ⟨a', c', he, ho.sl, hb⟩
theorem UpOut.sl {w w' : World} {L : List Int} {E : Int} {e : Ending} (h : UpOut w L E e w') : ∃ a' c', e = .returned (.tuple #[.slice a' L.length c', .int .i64 E]) ∧ SlR (IntC .i64) 1 w' a' L ∧ Below w.heap.size w w' := by
  obtain ⟨a', c', he, ho, hb⟩ := h
  exact ⟨a', c', he, ho.sl, hb⟩
theorem pkR_bytes (ws vs : List Int) : Bytes (pkR ws vs) := by
  unfold pkR
  split
  · exact pkL_bytes _ _ _
  · exact fun i hi => by simp at hi

section
variable {ba wa va : Option Addr} {bc wc vc : Nat} {xs ws vs : List Int} {w : World}
theorem law_packs (ha : SlR (IntC .i64) 1 w wa ws) (hv : SlR (IntC .i64) 1 w va vs) (hb : SlR (IntC .u8) 1 w ba xs) (hx : Bytes xs) (hl : xs.length ≤ 140737488355328) (hlw : ws.length ≤ 9223372036854775807) :
    Calls Try.prog N_law01_BitsPacks #[.slice wa ws.length wc, .slice va vs.length vc, .slice ba xs.length bc] w fun e w' => e = .returned (.bool true) ∧ Below w.heap.size w w' := by
  apply F_law01_BitsPacks_ok
  unfold F_law01_BitsPacks
  refine (pack_ok ha hv).mono ?_
  intro _ w1 h1
  obtain ⟨a1, c1, rfl, o1, b1⟩ := h1.sl
  refine ⟨_, _, _, _, rfl, ?_⟩
  refine (refPack_ok (ha.below b1) (hv.below b1)).mono ?_
  intro _ w2 h2
  obtain ⟨a2, c2, rfl, o2, b2⟩ := h2.sl
  have B2 := below_step b1 (Nat.le_refl _) b2
  refine ⟨_, _, _, _, rfl, ?_⟩
  refine (unpack_ok (hb.below B2) hx hl (ha.below B2)).mono ?_
  intro _ w3 h3
  obtain ⟨a3, c3, rfl, o3, b3⟩ := h3.sl
  have B3 := below_step B2 (Nat.le_refl _) b3
  refine ⟨_, _, _, _, rfl, ?_⟩
  refine (refUnpack_ok (hb.below B3) hx hl (ha.below B3)).mono ?_
  intro _ w4 h4
  obtain ⟨a4, c4, rfl, o4, b4⟩ := h4.sl
  have B4 := below_step B3 (Nat.le_refl _) b4
  refine ⟨_, _, _, _, rfl, ?_⟩
  refine (awake_ok w4).mono ?_
  rintro _ w5 ⟨rfl, b5⟩
  have B5 := below_step B4 (Nat.le_refl _) b5
  refine ⟨_, rfl, bsplit_intro (fun _ => ?_) (fun h => by cases h)⟩
  refine bsplit_intro (fun _ => ?_) (fun h => by simp at h)
  refine (same_ok ((((o1.below b2).below b3).below b4).below b5) (((o2.below b3).below b4).below b5) (pkR_bytes _ _) (pkR_bytes _ _)).mono ?_
  rintro _ w6 ⟨rfl, rfl⟩
  refine ⟨_, rfl, bsplit_intro (fun _ => ?_) (fun h => by simp at h)⟩
  refine bsplit_intro (fun _ => ?_) (fun h => by simp at h)
  have hlen : (upR xs ws).length ≤ 9223372036854775807 := by
    unfold upR; split
    · rw [upV_length]; exact hlw
    · simp
  refine (sameInts_ok ((o3.below b4).below b5) (o4.below b5) hlen).mono ?_
  rintro _ w7 ⟨rfl, b7⟩
  exact ⟨_, rfl, by simp, below_step B5 (Nat.le_refl _) b7⟩
end

section
variable {ba : Option Addr} {bc : Nat} {xs : List Int} {n0 n1 n2 : Int} {w : World}
theorem i64_wrap_le (n : Int) : IntKind.wrap .i64 n ≤ 9223372036854775807 := by rw [IntKind.wrap_i64]; omega
theorem if_min (a b : Int) : (if a < b then a else b) = min a b := by simp only [Int.min_def]; split <;> split <;> omega
theorem readV_hi (xs : List Int) (a n m : Nat) : readV xs a (n + m) = readV xs a n * 2 ^ m + readV xs (a + n) m := readV_add xs a n m

/-- a place and a width inside the bytes -/
theorem place {n at1 : Int} {l : Nat} (hl : l ≤ 140737488355328) (hl0 : l ≠ 0) (h : at1 = modI n (IntKind.wrap .i64 (8 * (l : Int)))) : ∃ A : Nat, at1 = A ∧ A < 8 * l := by
  rw [wrap_id _ (by omega)] at h
  have := modI_range n (8 * l) (by omega)
  exact ⟨at1.toNat, by omega, by omega⟩

theorem law_splits (hb : SlR (IntC .u8) 1 w ba xs) (hx : Bytes xs) (hl : xs.length ≤ 140737488355328) :
    Calls Try.prog N_law01_BitsSplits #[.slice ba xs.length bc, .agg #[.int .i64 n0, .int .i64 n1, .int .i64 n2]] w fun e w' => e = .returned (.bool true) ∧ Below w.heap.size w w' := by
  apply F_law01_BitsSplits_ok
  unfold F_law01_BitsSplits
  intro w1
  have hB : Blk w1 w.heap.size Ty_3_int #[.int .i64 n0, .int .i64 n1, .int .i64 n2] := Blk.new w _ _
  have b1 : Below w.heap.size w w1 := (Below.refl _ _).alloc (Nat.le_refl _) _
  clear_value w1
  refine bsplit_intro (fun _ => ?_) (fun hne => ?_)
  · refine (awake_ok w1).mono ?_
    rintro _ w2 ⟨rfl, b2⟩
    exact ⟨_, rfl, rfl, below_step b1 (Nat.le_refl _) b2⟩
  have hl0 : xs.length ≠ 0 := by simp at hne; simpa using hne
  refine ⟨n0, hB.cell0 0 rfl, ?_⟩
  refine (mod_ok _ _ (i64_wrap_le _) w1).mono ?_
  rintro _ w3 ⟨rfl, rfl⟩
  obtain ⟨A, hA, hA8⟩ := place (n := n0) hl hl0 rfl
  rw [hA]
  refine ⟨_, rfl, n1, by rw [nb_add]; exact hB.cell0 1 rfl, ?_⟩
  rw [wrap_id (8 * (xs.length : Int)) (by omega), wrap_id (8 * (xs.length : Int) - A) (by omega), wrap_id (8 * (xs.length : Int) - A + 1) (by omega), if_min]
  refine (mod_ok _ _ (by omega) w3).mono ?_
  rintro _ w4 ⟨rfl, rfl⟩
  have hN := modI_range n1 (min (8 * (xs.length : Int) - A + 1) 33) (by omega)
  obtain ⟨N, hNN⟩ := natOf hN.1
  rw [hNN] at hN ⊢
  refine ⟨_, rfl, n2, by rw [nb_add]; exact hB.cell0 2 rfl, ?_⟩
  rw [wrap_id ((N : Int) + 1) (by omega)]
  refine (mod_ok _ _ (by omega) w4).mono ?_
  rintro _ w5 ⟨rfl, rfl⟩
  have hK := modI_range n2 ((N : Int) + 1) (by omega)
  obtain ⟨K, hKK⟩ := natOf hK.1
  rw [hKK] at hK ⊢
  refine ⟨_, rfl, ?_⟩
  have hb5 := hb.below b1
  refine (read_ok hb5 hx hl).mono ?_
  rintro _ w6 ⟨rfl, rfl⟩
  obtain ⟨e1, v1⟩ := rdOk (xs := xs) (a := A) (n := N) (by omega) (by omega)
  rw [e1, v1]
  refine ⟨_, _, rfl, ?_⟩
  refine (read_ok hb5 hx hl).mono ?_
  rintro _ w7 ⟨rfl, rfl⟩
  obtain ⟨e2, v2⟩ := rdOk (xs := xs) (a := A) (n := K) (by omega) (by omega)
  rw [e2, v2]
  refine ⟨_, _, rfl, ?_⟩
  rw [wrap_id ((A : Int) + K) (by omega), wrap_id ((N : Int) - K) (by omega), show (A : Int) + K = ((A + K : Nat) : Int) by omega, show (N : Int) - K = ((N - K : Nat) : Int) by omega]
  refine (read_ok hb5 hx hl).mono ?_
  rintro _ w8 ⟨rfl, rfl⟩
  obtain ⟨e3, v3⟩ := rdOk (xs := xs) (a := A + K) (n := N - K) (by omega) (by omega)
  rw [e3, v3]
  refine ⟨_, _, rfl, ?_⟩
  refine (awake_ok w8).mono ?_
  rintro _ w9 ⟨rfl, b9⟩
  refine ⟨_, rfl, bsplit_intro (fun _ => ?_) (fun h => by cases h)⟩
  refine bsplit_intro (fun _ => ?_) (fun h => by simp at h)
  refine bsplit_intro (fun _ => ?_) (fun h => by simp at h)
  refine bsplit_intro (fun _ => ?_) (fun h => by simp at h)
  rw [u64_id (N - K) (by omega)]
  refine ⟨by omega, ?_⟩
  intro x3
  have hsum := readV_add xs A K (N - K)
  rw [show K + (N - K) = N by omega] at hsum
  have r1 := readV_range xs A N
  have p1 := pow_le32 (n := N) (by omega)
  have r2 := readV_range xs (A + K) (N - K)
  have r3 := readV_range xs A K
  have p0 : (0 : Int) < 2 ^ (N - K) := by rw [two_pow_cast]; exact_mod_cast Nat.two_pow_pos _
  have m0 : 0 ≤ readV xs A K * 2 ^ (N - K) := Int.mul_nonneg r3.1 (by omega)
  have : x3 = true := by
    simp only [x3]
    rw [Int.toNat_natCast, show min (N - K) (IntKind.bits .i64) = N - K from Nat.min_eq_left (by show N - K ≤ 64; omega)]
    rw [wrap_id (readV xs A K * 2 ^ (N - K)) (by omega), wrap_id _ (by omega), hsum]
    simp
  rw [this]
  exact ⟨rfl, below_step b1 (Nat.le_refl _) b9⟩
end
end Go.Proofs.Yteoogdpjidbapaa
