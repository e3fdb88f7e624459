import Derived.Test.YteoogdpjidbapaaW01d
namespace Go.Proofs.Yteoogdpjidbapaa
open Go.Sx Go.RowKit
section
variable {ba : Option Addr} {bc : Nat} {xs : List Int} {n0 n1 n2 near probe : Int} {w : World}
theorem law_keeps (hb : SlR (IntC .u8) 1 w ba xs) (hx : Bytes xs) (hl : xs.length ≤ 140737488355328) :
    Calls Try.prog N_law01_BitsKeeps #[.slice ba xs.length bc, .agg #[.int .i64 n0, .int .i64 n1, .int .i64 n2], .int .i64 probe] w fun e w' => e = .returned (.bool true) ∧ Below w.heap.size w w' := by
  apply F_law01_BitsKeeps_ok
  unfold F_law01_BitsKeeps
  intro w1
  have hB : Blk w1 w.heap.size Ty_3_int #[.int .i64 n0, .int .i64 n1, .int .i64 n2] := Blk.new w _ _
  have b1 : Below w.heap.size w w1 := (Below.refl _ _).alloc (Nat.le_refl _) _
  clear_value w1
  refine bsplit_intro (fun _ => ?_) (fun hne => ?_)
  · refine (awake_ok w1).mono ?_
    rintro _ w2 ⟨rfl, b2⟩
    exact ⟨_, rfl, rfl, below_step b1 (Nat.le_refl _) b2⟩
  have hl0 : xs.length ≠ 0 := by simp at hne; simpa using hne
  refine ⟨n0, hB.cell0 0 rfl, ?_⟩
  refine (mod_ok _ _ (i64_wrap_le _) w1).mono ?_
  rintro _ w3 ⟨rfl, rfl⟩
  obtain ⟨A, hA, hA8⟩ := place (n := n0) hl hl0 rfl
  rw [hA]
  refine ⟨_, rfl, n1, by rw [nb_add]; exact hB.cell0 1 rfl, ?_⟩
  obtain ⟨Pr, hPr, hPr8⟩ := place (n := probe) hl hl0 rfl
  rw [wrap_id (8 * (xs.length : Int)) (by omega)] at hPr ⊢
  rw [wrap_id (8 * (xs.length : Int) - A) (by omega), wrap_id (8 * (xs.length : Int) - A + 1) (by omega), if_min]
  refine (mod_ok _ _ (by omega) w3).mono ?_
  rintro _ w4 ⟨rfl, rfl⟩
  have hN := modI_range n1 (min (8 * (xs.length : Int) - A + 1) 33) (by omega)
  obtain ⟨N, hNN⟩ := natOf hN.1
  rw [hNN] at hN ⊢
  refine ⟨_, rfl, n2, by rw [nb_add]; exact hB.cell0 2 rfl, ?_⟩
  rw [u64_id N (by omega), shl_one (by omega)]
  refine ⟨by omega, ?_⟩
  have hp := pow_le32 (n := N) (by omega)
  have hp0 : (1 : Int) ≤ 2 ^ N := by rw [two_pow_cast]; have := Nat.two_pow_pos N; omega
  refine (mod_ok _ _ (by omega) w4).mono ?_
  rintro _ w5 ⟨rfl, rfl⟩
  have hV := modI_range n2 (2 ^ N) hp0
  obtain ⟨V, hVV⟩ := natOf hV.1
  rw [hVV] at hV ⊢
  have hVn : V < 2 ^ N := by have := hV.2; rw [two_pow_cast] at this; omega
  refine ⟨_, rfl, ?_⟩
  have hb5 := hb.below b1
  refine (write_ok (at1 := A) (n := N) (v := V) hb5 hx hl).mono ?_
  have hwE : wrE xs A N V = 0 := by
    unfold wrE
    rw [if_neg (by rw [Int.toNat_natCast, two_pow_cast]; omega), if_neg (by omega)]
  have hwR : wrR xs A N V = wrL xs A V N N := by unfold wrR; rw [if_pos hwE]; simp only [Int.toNat_natCast]
  rw [hwR, hwE]
  intro _ w6 h6
  obtain ⟨a', c', rfl, o6, b6⟩ := h6.sl
  have hlen := wrL_length xs A V N N
  have hby := wrL_bytes hx A V N N
  refine ⟨_, _, _, _, rfl, ?_⟩
  refine (read_ok o6 hby (by omega)).mono ?_
  rintro _ w7 ⟨rfl, rfl⟩
  obtain ⟨e1, v1⟩ := rdOk (xs := wrL xs A V N N) (a := A) (n := N) (by omega) (by omega)
  rw [e1, v1, readV_wrL hx (by omega) hVn]
  refine ⟨_, _, rfl, ?_⟩
  refine (mod_ok _ _ (by omega) w7).mono ?_
  rintro _ w8 ⟨rfl, rfl⟩
  rw [hPr]
  refine ⟨_, rfl, ?_⟩
  have b8 := below_step b1 (Nat.le_refl _) b6
  refine ⟨fun x w9 => w9 = w8 ∧ (x = true ↔ A ≤ Pr ∧ Pr < A + N), ?_, ?_⟩
  · rintro _ x w9 ⟨rfl, hx3⟩
    refine bsplit_intro (fun _ => ?_) (fun hf => ?_)
    · refine (awake_ok w9).mono ?_
      rintro _ w10 ⟨rfl, b10⟩
      refine ⟨_, rfl, bsplit_intro (fun _ => ?_) (fun h => by cases h)⟩
      refine bsplit_intro (fun _ => ?_) (fun h => by simp at h)
      refine bsplit_intro (fun _ => ?_) (fun h => by simp at h)
      exact ⟨by simp, below_step b8 (Nat.le_refl _) b10⟩
    · have hout : ¬ (A ≤ Pr ∧ Pr < A + N) := fun h => by rw [hx3.2 h] at hf; cases hf
      refine (read_ok (at1 := Pr) (n := 1) (hb.below b8) hx hl).mono ?_
      rintro _ w11 ⟨rfl, rfl⟩
      obtain ⟨e2, v2⟩ := rdOk (xs := xs) (a := Pr) (n := 1) (by omega) (by omega)
      have e2' : rdE xs Pr 1 = 0 := e2
      have v2' : rdV xs Pr 1 = readV xs Pr 1 := v2
      rw [e2', v2']
      refine ⟨_, _, rfl, ?_⟩
      refine (read_ok (at1 := Pr) (n := 1) o6 hby (by omega)).mono ?_
      rintro _ w12 ⟨rfl, rfl⟩
      obtain ⟨e3, v3⟩ := rdOk (xs := wrL xs A V N N) (a := Pr) (n := 1) (by omega) (by omega)
      have e3' : rdE (wrL xs A V N N) Pr 1 = 0 := e3
      have v3' : rdV (wrL xs A V N N) Pr 1 = readV (wrL xs A V N N) Pr 1 := v3
      rw [e3', v3']
      refine ⟨_, _, rfl, ?_⟩
      refine (awake_ok w12).mono ?_
      rintro _ w13 ⟨rfl, b13⟩
      refine ⟨_, rfl, bsplit_intro (fun _ => ?_) (fun h => by cases h)⟩
      refine bsplit_intro (fun _ => ?_) (fun h => by simp at h)
      refine bsplit_intro (fun _ => ?_) (fun h => by simp at h)
      refine bsplit_intro (fun _ => ?_) (fun h => by simp at h)
      refine bsplit_intro (fun _ => ?_) (fun h => by simp at h)
      refine bsplit_intro (fun _ => ?_) (fun h => by simp at h)
      have hs : readV xs Pr 1 = readV (wrL xs A V N N) Pr 1 := readV_congr fun j hj => by rw [bitI_wrL hx N (by omega), if_neg (by omega)]
      refine bsplit_intro (fun _ => ?_) (fun h => by simp [hs] at h)
      intro x4
      have : x4 = true := by simp only [x4]; rw [hlen]; simp
      rw [this]
      exact ⟨rfl, below_step b8 (Nat.le_refl _) b13⟩
  · rw [wrap_id ((A : Int) + N) (by omega)]
    refine bsplit_dec (fun h => ⟨rfl, by rw [decide_eq_true_eq]; omega⟩) (fun h => ⟨rfl, by simp; omega⟩)

theorem law_reads (hb : SlR (IntC .u8) 1 w ba xs) (hx : Bytes xs) (hl : xs.length ≤ 140737488351232) :
    Calls Try.prog N_law01_BitsReads #[.slice ba xs.length bc, .agg #[.int .i64 n0, .int .i64 n1, .int .i64 n2], .int .i64 near] w fun e w' => e = .returned (.bool true) ∧ Below w.heap.size w w' := by
  apply F_law01_BitsReads_ok
  unfold F_law01_BitsReads
  intro w1
  have hB : Blk w1 w.heap.size Ty_3_int #[.int .i64 n0, .int .i64 n1, .int .i64 n2] := Blk.new w _ _
  have b1 : Below w.heap.size w w1 := (Below.refl _ _).alloc (Nat.le_refl _) _
  have hs1 : w1.heap.size = w.heap.size + 1 := by simp [w1]
  clear_value w1
  refine ⟨fun l w31 => ∃ (g : Nat) (s : Nat → Int), l = ⟨g, 0, none⟩ ∧ (∀ j, j < 6 → w31.cell? ⟨g, j, none⟩ = some (.int .i64 (s j))) ∧ Below w.heap.size w w31, ?_, ?_⟩
  · rintro _ l w31 ⟨g, s, rfl, hc, b31⟩
    refine ⟨fun i => ((2 - i).toNat, fun w32 => ∃ k : Nat, i = k ∧ k ≤ 2 ∧ (∀ j, j < 6 → w32.cell? ⟨g, j, none⟩ = some (.int .i64 (s j))) ∧ Below w.heap.size w w32), ⟨0, rfl, by omega, hc, b31⟩, ?_⟩
    clear hc b31 w31
    rintro _ i w32 ⟨k, rfl, hk, hc, b32⟩
    refine bsplit_dec (fun hlt => ?_) (fun hge => ?_)
    · have hlt : k < 2 := by omega
      have ad : ∀ j, (((⟨g, 0, none⟩ : Addr).add ((k : Int).toNat * 3)).add j) = ⟨g, k * 3 + j, none⟩ := fun j => by rw [Int.toNat_natCast, add_mk, add_mk]; simp
      have ad0 : ((⟨g, 0, none⟩ : Addr).add ((k : Int).toNat * 3)) = ⟨g, k * 3 + 0, none⟩ := by rw [Int.toNat_natCast, add_mk]; simp
      have hgs : ∀ {w' : World}, (∀ j, j < 6 → w'.cell? ⟨g, j, none⟩ = some (.int .i64 (s j))) → g < w'.heap.size := fun h => cell_lt (h 0 (by decide))
      have c0 : w32.cell? ((⟨g, 0, none⟩ : Addr).add ((k : Int).toNat * 3)) = some (.int .i64 (s (k * 3 + 0))) := by rw [ad0]; exact hc (k * 3 + 0) (by omega)
      have c1 : w32.cell? (((⟨g, 0, none⟩ : Addr).add ((k : Int).toNat * 3)).add 1) = some (.int .i64 (s (k * 3 + 1))) := by rw [ad]; exact hc (k * 3 + 1) (by omega)
      have c2 : w32.cell? (((⟨g, 0, none⟩ : Addr).add ((k : Int).toNat * 3)).add 2) = some (.int .i64 (s (k * 3 + 2))) := by rw [ad]; exact hc (k * 3 + 2) (by omega)
      have hb32 := hb.below b32
      intro w33
      have h33 : Below w32.heap.size w32 w33 := (Below.refl _ _).drew
      clear_value w33
      have b33 := below_step b32 (Nat.le_refl _) h33
      refine ⟨(· < w33.heap.size), ⟨by omega, by omega⟩, cell_lt (h33.get c0), _, h33.get c0, ⟨by omega, by omega⟩, cell_lt (h33.get c1), _, h33.get c1, ?_⟩
      refine (read_ok (hb.below b33) hx (by omega)).mono ?_
      rintro _ w34 ⟨rfl, rfl⟩
      refine ⟨_, _, rfl, KeepsB.refl _ _, ?_⟩
      intro w35
      have h35 : Below w34.heap.size w34 w35 := (Below.refl _ _).drew
      clear_value w35
      have H35 := below_step h33 (Nat.le_refl _) h35
      have b35 := below_step b33 (Nat.le_refl _) h35
      refine ⟨(· < w35.heap.size), ⟨by omega, by omega⟩, cell_lt (H35.get c0), _, H35.get c0, ⟨by omega, by omega⟩, cell_lt (H35.get c1), _, H35.get c1, ?_⟩
      refine (refRead_ok (hb.below b35) hx (by omega)).mono ?_
      rintro _ w36 ⟨rfl, rfl⟩
      refine ⟨_, _, rfl, KeepsB.refl _ _, ?_⟩
      intro w37
      have h37 : Below w36.heap.size w36 w37 := (Below.refl _ _).drew
      clear_value w37
      have H37 := below_step H35 (Nat.le_refl _) h37
      have b37 := below_step b35 (Nat.le_refl _) h37
      refine ⟨(· < w37.heap.size), ⟨by omega, by omega⟩, cell_lt (H37.get c0), _, H37.get c0, ⟨by omega, by omega⟩, cell_lt (H37.get c1), _, H37.get c1, ⟨by omega, by omega⟩, cell_lt (H37.get c2), _, H37.get c2, ?_⟩
      refine (write_ok (hb.below b37) hx (by omega)).mono ?_
      intro _ w38 h38
      obtain ⟨a1, l1, rfl, o1, k38⟩ := h38.sl
      have H38 := below_step H37 (Nat.le_refl _) k38
      have b38 := below_step b37 (Nat.le_refl _) k38
      refine ⟨_, _, _, _, rfl, k38.keeps, ?_⟩
      intro w39
      have h39 : Below w38.heap.size w38 w39 := (Below.refl _ _).drew
      clear_value w39
      have H39 := below_step H38 (Nat.le_refl _) h39
      have b39 := below_step b38 (Nat.le_refl _) h39
      refine ⟨(· < w39.heap.size), ⟨by omega, by omega⟩, cell_lt (H39.get c0), _, H39.get c0, ⟨by omega, by omega⟩, cell_lt (H39.get c1), _, H39.get c1, ⟨by omega, by omega⟩, cell_lt (H39.get c2), _, H39.get c2, ?_⟩
      refine (refWrite_ok (hb.below b39) hx (by omega)).mono ?_
      intro _ w40 h40
      obtain ⟨a2, l2, rfl, o2, k40⟩ := h40.sl
      have H40 := below_step H39 (Nat.le_refl _) k40
      have b40 := below_step b39 (Nat.le_refl _) k40
      refine ⟨_, _, _, _, rfl, k40.keeps, ?_⟩
      refine bsplit_intro (fun h => by simp at h) (fun _ => ?_)
      refine bsplit_intro (fun h => by simp at h) (fun _ => ?_)
      refine bsplit_intro (fun h => by simp at h) (fun _ => ?_)
      have hby : Bytes (wrR xs (s (k * 3 + 0)) (s (k * 3 + 1)) (s (k * 3 + 2))) := by
        unfold wrR; split
        · exact wrL_bytes hx _ _ _ _
        · exact fun i hi => by simp at hi
      refine (same_ok ((o1.below h39).below k40) o2 hby hby).mono ?_
      rintro _ w41 ⟨rfl, rfl⟩
      refine ⟨_, rfl, bsplit_intro (fun h => by simp at h) (fun _ => ?_)⟩
      intro i4
      have e4 : i4 = ((k + 1 : Nat) : Int) := by simp only [i4]; rw [wrap_id _ (by omega)]; omega
      rw [e4]
      exact ⟨⟨k + 1, rfl, by omega, fun j hj => H40.get (hc j hj), b40⟩, by simp; omega⟩
    · refine (awake_ok w32).mono ?_
      rintro _ w42 ⟨rfl, b42⟩
      exact ⟨_, rfl, rfl, below_step b32 (Nat.le_refl _) b42⟩
  · intro w2
    have hB2 : Blk w2 w.heap.size Ty_3_int #[.int .i64 n0, .int .i64 n1, .int .i64 n2] := hB
    have b2 : Below w.heap.size w w2 := b1.drew
    have hs2 : w.heap.size < w2.heap.size := by show _ < w1.heap.size; omega
    clear_value w2
    have lt0 : (nb w).block < w2.heap.size := hs2
    have ltj : ∀ j, ((nb w).add j).block < w2.heap.size := fun j => by rw [add_block]; exact hs2
    refine ⟨(· < w2.heap.size), lt0, n0, n1, n2, blk_cellsAll hB2, lt0, n0, hB2.cell0 0 rfl, ltj 1, n1, by rw [nb_add]; exact hB2.cell0 1 rfl, ltj 2, n2, by rw [nb_add]; exact hB2.cell0 2 rfl, ?_⟩
    have fin : ∀ (cs : List Int) (w' w'' : World), cs.length = 6 → w' = w2 → w'' = w2.alloc (.cells #[.int .i64 0, .int .i64 0, .int .i64 0, .int .i64 0, .int .i64 0, .int .i64 0] Ty_2_3_int) →
        sxStore w'' (nb w2) 0 (cs.map (Value.int .i64)) fun w30 => ∃ (g : Nat) (s : Nat → Int), nb w2 = ⟨g, 0, none⟩ ∧ (∀ j, j < 6 → w30.cell? ⟨g, j, none⟩ = some (.int .i64 (s j))) ∧ Below w.heap.size w w30 := by
      rintro cs w' _ hcs rfl rfl
      refine blk_storeAll (Blk.new w' Ty_2_3_int _) (by simpa using hcs) (by simp [Value.oneCell']) fun w30 hB30 hs30 => ⟨w'.heap.size, fun j => cs.getD j 0, rfl, fun j hj => ?_, ?_⟩
      · refine hB30.cell0 j ?_
        simp [getD_at (show j < cs.length by omega), show j < cs.length by omega]
      · exact (b2.alloc b2.size _).but hs30 b2.size
    have kp : KeepsB (· < w2.heap.size) w2 (w2.alloc (.cells #[.int .i64 0, .int .i64 0, .int .i64 0, .int .i64 0, .int .i64 0, .int .i64 0] Ty_2_3_int)) := ((Below.refl w2.heap.size w2).alloc (Nat.le_refl _) _).keeps
    have kr : KeepsB (· < w2.heap.size) w2 w2 := KeepsB.refl _ _
    have hr := modI_range near 33 (by decide)
    have u0 : 0 ≤ IntKind.wrap .u64 (modI near 33) := by
      obtain ⟨m, hm⟩ := natOf hr.1
      rw [hm, u64_id m (by omega)]; omega
    have mo : ∀ (n m : Int) (m' : World) {K : Ending → World → Prop}, m ≤ 9223372036854775807 → K (.returned (.int .i64 (modI n m))) m' → Calls Try.prog N_made_Mod #[.int .i64 n, .int .i64 m] m' K :=
      fun n m m' K hm hK => (mod_ok n m hm m').mono (by rintro _ _ ⟨rfl, rfl⟩; exact hK)
    repeat' (first
      | exact kr
      | exact kp
      | exact u0
      | exact True.intro
      | (refine mo _ _ _ (by first | exact i64_wrap_le _ | decide) ?_; refine ⟨_, rfl, ?_⟩)
      | exact fin [n0, n1, n2, _, _, _] w2 _ rfl rfl rfl
      | refine ⟨?_, ?_⟩
      | intro wN)
end
end Go.Proofs.Yteoogdpjidbapaa
