import Derived.Test.YtgmniohbnophdaaW38a
/- CHAPTER 38: IndexFunc, BinarySearchFunc, Insert of attempts. -/
set_option maxRecDepth 100000
namespace Go.Proofs.Ytgmniohbnophdaa
open Go.Sx Go.RowKit Go.P38
def idx {α : Type} (p : α → Bool) : List α → Int
  | [] => -1
  | x :: xs => if p x then 0 else (if idx p xs < 0 then -1 else idx p xs + 1)
theorem idx_ge {α : Type} {p : α → Bool} : ∀ l : List α, -1 ≤ idx p l
  | [] => by simp [idx]
  | x :: xs => by have := idx_ge (p := p) xs; unfold idx; repeat' split <;> omega
theorem idx_no {α : Type} {p : α → Bool} : ∀ {l : List α}, (∀ j (hj : j < l.length), p l[j] = false) → idx p l = -1
  | [], _ => rfl
  | x :: xs, h => by
    have h0 : p x = false := h 0 (by simp)
    have := idx_no (p := p) (l := xs) fun j hj => h (j + 1) (by simpa using hj)
    simp [idx, h0, this]
theorem idx_at {α : Type} {p : α → Bool} : ∀ {l : List α} {k : Nat} (hk : k < l.length), (∀ j (hj : j < l.length), j < k → p l[j] = false) → p l[k] = true → idx p l = k
  | x :: xs, 0, hk, _, h => by have h : p x = true := h; simp [idx, h]
  | x :: xs, k + 1, hk, hno, h => by
    have h0 : p x = false := hno 0 (by simp) (by omega)
    have := idx_at (p := p) (l := xs) (k := k) (by simpa using hk) (fun j hj h => hno (j + 1) (by simpa using hj) (by omega)) h
    simp only [idx, h0, this]
    rw [if_neg (by simp), if_neg (by omega)]; rfl
section
variable {w : World} {a : Option Addr} {c g : Nat} {l : List At} {ff fc : Array Value}
theorem indexFunc_ct (hs : SlR (CE encAt) 4 w a l) (hl : l.length ≤ 1000000) (p : At → Bool) (hok : okFn Try.prog g = true)
    (hf : ∀ (w' : World) (r : At), r ∈ l → Below w.heap.size w w' → Calls Try.prog g (ff ++ #[aggAt r] ++ fc) w' fun e w'' => e = .returned (.bool (p r)) ∧ Below w'.heap.size w' w'') :
    Calls Try.prog N_slices_IndexFunc_Sapi_Attempt_api_Attempt #[(.slice a l.length c), .func (.func g) ff fc] w fun e w' => e = .returned (.int .i64 (idx p l)) ∧ Below w.heap.size w w' := by
  apply F_slices_IndexFunc_Sapi_Attempt_api_Attempt_ok
  unfold F_slices_IndexFunc_Sapi_Attempt_api_Attempt
  have H := St.nil w
  refine ⟨fun x => ((l.length - x).toNat, fun w1 => ∃ k : Nat, x = k ∧ k ≤ l.length ∧ (∀ j (hj : j < l.length), j < k → p l[j] = false) ∧ FreshR w w1 []), ⟨0, rfl, by omega, fun j _ h => by omega, H⟩, ?_⟩
  clear H
  rintro _ x w1 ⟨k, rfl, hk, hno, H1⟩
  refine bsplit_dec (fun c1 => ?_) (fun c1 => ?_) --  (decide (x < (s_l : Int)))
  · have hlt : k < l.length := by omega
    refine ixE (hs.belowE H1.below) k rfl hlt fun b s hsk hb => ?_
    obtain rfl : l[k] = s := by rw [List.getElem?_eq_getElem hlt] at hsk; injection hsk
    refine ⟨_, _, _, _, hb, ?_⟩
    refine ⟨hok, ?_⟩
    refine (hf w1 _ (List.getElem_mem hlt) H1.below).mono ?_
    rintro _ w2 ⟨rfl, hb2⟩; have H2 := H1.pass hb2; clear H1
    refine ⟨_, rfl, ?_⟩
    refine bsplit_intro (fun c => ?_) (fun c => ?_) --  r
    · exact ⟨by rw [idx_at hlt hno c], H2.below⟩
    · refine kW_i64 (by omega) ?_ -- x + (1 : Int)
      exact ⟨⟨k + 1, by omega, by omega, fun j hj h => by
        rcases Nat.lt_or_ge j k with h' | h'
        · exact hno j hj h'
        · obtain rfl : j = k := by omega
          exact c, H2⟩, by dsimp only; omega⟩
  · obtain rfl : k = l.length := by omega
    exact ⟨by rw [idx_no fun j hj => hno j hj hj], H1.below⟩
/-- the place of an attempt among ascending ones -/
theorem search_ct (hs : SlR (CE encAt) 4 w a l) (hl : l.length ≤ 1000000) (x : At) (hm : ∀ i j (hi : i < l.length) (hj : j < l.length), i ≤ j → bef l[j] x = true → bef l[i] x = true) :
    Calls Try.prog N_slices_BinarySearchFunc_Sapi_Attempt_api_Attempt_api_Attempt #[(.slice a l.length c), aggAt x, .func (.func N_access_order) #[] #[]] w fun e w' => ∃ (k : Nat) (f : Bool), e = .returned (.tuple #[.int .i64 k, .bool f]) ∧ k ≤ l.length ∧ putR l x = l.take k ++ x :: l.drop k ∧ Below w.heap.size w w' := by
  apply F_slices_BinarySearchFunc_Sapi_Attempt_api_Attempt_api_Attempt_ok
  unfold F_slices_BinarySearchFunc_Sapi_Attempt_api_Attempt_api_Attempt
  have H := St.nil w
  refine H.alloc ?_; clear H; intro b w1 H1
  refine ⟨fun i j => ((j - i).toNat, fun w2 => ∃ p q : Nat, i = p ∧ j = q ∧ p ≤ q ∧ q ≤ l.length ∧ (∀ k (hk : k < l.length), k < p → bef l[k] x = true) ∧ (∀ k (hk : k < l.length), q ≤ k → bef l[k] x = false) ∧ FreshR w w2 [.blk b Ty_api_Attempt (encAt x)]),
    ⟨0, l.length, rfl, rfl, by omega, by omega, fun k _ h => by omega, fun k hk h => by omega, H1⟩, ?_⟩
  clear H1
  rintro _ i j w2 ⟨p, q, rfl, rfl, hpq, hq, h1, h2, H2⟩
  refine bsplit_dec (fun c1 => ?_) (fun c1 => ?_)
  · refine kW_i64 (by omega) ?_
    refine kW_u64 (by omega) ?_
    refine kLet_in ?_
    have ed : Int.fdiv ((p : Int) + q) (2 ^ 1) = ((p + q) / 2 : Nat) := by
      rw [Int.fdiv_eq_ediv_of_nonneg _ (by decide)]; omega
    rw [ed]
    refine kW_i64 (by omega) ?_
    have hlt : (p + q) / 2 < l.length := by omega
    have hp : p ≤ (p + q) / 2 := by omega
    have hq2 : (p + q) / 2 < q := by omega
    generalize hmid : (p + q) / 2 = m at hlt hp hq2
    clear hmid ed
    refine H2.drew ?_; clear H2; intro w3 H3
    refine ⟨fun _ => True, ?_⟩
    refine ixE (hs.belowE H3.below) m rfl hlt fun b1 s hsk hb => ?_
    obtain rfl : l[m] = s := by rw [List.getElem?_eq_getElem hlt] at hsk; injection hsk
    refine ⟨_, _, _, _, hb, ?_⟩
    refine ⟨_, _, _, _, H3.cells (i := 0) rfl, ?_⟩
    refine ⟨by kernel_rfl, ?_⟩
    refine (access_order_ct l[m] x).mono ?_
    rintro _ w4 ⟨rfl, hb4⟩; have H4 := H3.pass hb4
    refine ⟨_, rfl, fun p _ _ hc => hb4.get hc, ?_⟩
    refine bsplit_dec (fun c2 => ?_) (fun c2 => ?_)
    · refine kW_i64 (by omega) ?_
      have hbm : bef l[m] x = true := (ord_lt _ _).1 c2
      exact ⟨⟨m + 1, q, by omega, rfl, by omega, hq, fun k hk hk' => hm k m hk hlt (by omega) hbm, h2, H4⟩, by dsimp only; omega⟩
    · have hbm : bef l[m] x = false := by
        rw [Bool.eq_false_iff]; exact fun h => c2 ((ord_lt _ _).2 h)
      have h3 : ∀ k (hk : k < l.length), m ≤ k → bef l[k] x = false := fun k hk hk' => by
        rw [Bool.eq_false_iff]
        intro h
        rw [hm m k hlt hk hk' h] at hbm
        cases hbm
      exact ⟨⟨p, m, rfl, rfl, hp, by omega, h1, h3, H4⟩, by dsimp only; omega⟩
  · obtain rfl : p = q := by omega
    have hput : putR l x = l.take p ++ x :: l.drop p := putR_at hq h1 fun hk => h2 p hk (Nat.le_refl _)
    refine H2.drew ?_; clear H2; intro w5 H5
    refine ⟨fun _ => True, ?_⟩
    refine bsplit_dec (fun c2 => ?_) (fun c2 => ?_)
    · have hlt : p < l.length := by omega
      refine ixE (hs.belowE H5.below) p rfl hlt fun b1 s hsk hb => ?_
      obtain rfl : l[p] = s := by rw [List.getElem?_eq_getElem hlt] at hsk; injection hsk
      refine ⟨_, _, _, _, hb, ?_⟩
      refine ⟨_, _, _, _, H5.cells (i := 0) rfl, ?_⟩
      refine ⟨by kernel_rfl, ?_⟩
      refine (access_order_ct l[p] x).mono ?_
      rintro _ w6 ⟨rfl, hb6⟩; have H6 := H5.pass hb6
      refine ⟨_, rfl, fun p _ _ hc => hb6.get hc, ?_⟩
      refine kLet_in ?_
      exact ⟨p, _, rfl, hq, hput, H6.below⟩
    · exact ⟨p, _, rfl, hq, hput, H5.below⟩
end
section
variable {A0 : Nat → Prop} {M : List Nat} {w0 w : World} {R : List Res} {P : World → Prop}
theorem splits {α : Type} {W : List α} {n m : Nat} (h : n + m ≤ W.length) : ∃ Y Z1 Z2, W = Y ++ Z1 ++ Z2 ∧ Y.length = n ∧ Z1.length = m :=
  ⟨W.take n, (W.drop n).take m, (W.drop n).drop m, by rw [List.append_assoc, List.take_append_drop, List.take_append_drop], by simp; omega, by simp; omega⟩
theorem slA {m l sz g : Nat} (h : m ≠ l) : slAddr m l sz (some ⟨g, 0, none⟩) = some ⟨g, l * sz, none⟩ := by
  unfold slAddr; rw [if_neg h]; simp [add_mk]
theorem slA0 {m sz : Nat} (a : Option Addr) : slAddr m 0 sz a = a := by
  unfold slAddr
  split
  · rfl
  · cases a <;> simp [add_zero]
theorem cat (a b : List Value) : ∀ (j : Nat) (u : Value), b[j]? = some u → (a ++ b)[a.length + j]? = some u := fun j u h => by
  rw [List.getElem?_append_right (by omega), Nat.add_sub_cancel_left]; exact h
/-- an attempt goes into the call's own row -/
theorem insert_ct (H : St A0 M w0 w R P) {i j g : Nat} {a : Option Addr} {c k : Nat} {l : List At} {x : At} {t0 : TypeId} (hi : R[i]? = some (.els encAt Ty_api_Attempt 4 a c l)) (hj : R[j]? = some (.blk g t0 (encAt x))) (hk : k ≤ l.length) (hl : l.length ≤ 1000000)
    {F : Ending → World → Prop} (h : ∀ a' c' w', St A0 M w0 w' (R.set i (.els encAt Ty_api_Attempt 4 a' c' (l.take k ++ x :: l.drop k))) P → F (.returned (.slice a' (l.length + 1) c')) w') :
    Calls Try.prog N_slices_Insert_Sapi_Attempt_api_Attempt #[.slice a l.length c, .int .i64 k, .slice (some ⟨g, 0, none⟩) 1 1] w F := by
  have hij : i ≠ j := by rintro rfl; rw [hi] at hj; cases hj
  have hut : Try.prog.underlying Ty_S_api_Attempt = some (.slice Ty_api_Attempt) := sl_Ty_S_api_Attempt.ht
  have hsz : (Try.prog.info? Ty_api_Attempt).map (·.size) = some 4 := by
    obtain ⟨inf, hinf, _, h2, _⟩ := sl_Ty_S_api_Attempt.info
    rw [hinf]; simp [h2]
  have hxs : SlR (CE encAt) 4 w (some ⟨g, 0, none⟩) [x] := H.slBlk encAt_ok [x] (i := j) (by simpa using hj)
  have hxc : ∀ {w1 : World} {R1 : List Res}, St A0 M w0 w1 R1 P → R1[j]? = some (.blk g t0 (encAt x)) → ∀ j v, (encAt x)[j]? = some v → w1.cell? ((⟨g, 0, none⟩ : Addr).add j) = some v := fun H1 h1 q v hv => by
    rw [add_mk, Nat.zero_add]; exact H1.cell h1 hv
  have hone : ∀ v ∈ encAt x, v.oneCell' = true := fun v hv => List.all_eq_true.1 (encAt_ok.one x) v hv
  have hsp : l.flatMap encAt = (l.take k).flatMap encAt ++ (l.drop k).flatMap encAt := by rw [← List.flatMap_append, List.take_append_drop]
  have hl1 : ((l.take k).flatMap encAt).length = k * 4 := by rw [flat_len encAt_ok, List.length_take, Nat.min_eq_left hk]
  have hl2 : ((l.drop k).flatMap encAt).length = (l.length - k) * 4 := by rw [flat_len encAt_ok, List.length_drop]
  have hone2 : ∀ v ∈ (l.drop k).flatMap encAt, v.oneCell' = true := flat_one encAt_ok
  -- the end: a block whose first cells are the new row
  have fin : ∀ {w1 : World} {R1 : List Res} {g' c' : Nat} {Z : List Value}, St A0 M w0 w1 R1 P → R1[i]? = some (.blk g' Ty_api_Attempt ((l.take k).flatMap encAt ++ encAt x ++ (l.drop k).flatMap encAt ++ Z)) → R1.set i (.els encAt Ty_api_Attempt 4 (some ⟨g', 0, none⟩) c' (l.take k ++ x :: l.drop k)) = R.set i (.els encAt Ty_api_Attempt 4 (some ⟨g', 0, none⟩) c' (l.take k ++ x :: l.drop k)) →
      l.length + 1 ≤ c' → c' ≤ maxLen → (l.length + 1) * 4 + Z.length = c' * 4 → St A0 M w0 w1 (R.set i (.els encAt Ty_api_Attempt 4 (some ⟨g', 0, none⟩) c' (l.take k ++ x :: l.drop k))) P := fun {w1 R1 g' c' Z} H1 h1 hR hn hc hZ => by
    have e : (l.take k).flatMap encAt ++ encAt x ++ (l.drop k).flatMap encAt = (l.take k ++ x :: l.drop k).flatMap encAt := by simp
    have el : (l.take k ++ x :: l.drop k).length = l.length + 1 := by simp; omega
    rw [e] at h1
    have := H1.blkRow h1 4 (l.length + 1) c' (by rw [List.length_append, flat_len encAt_ok, el]; exact hZ) hn hc
    have e2 : ((l.take k ++ x :: l.drop k).flatMap encAt ++ Z).take ((l.length + 1) * 4) = (l.take k ++ x :: l.drop k).flatMap encAt := by
      rw [← el, ← flat_len encAt_ok]; exact List.take_left
    rw [e2, ← el] at this
    rw [← hR]; exact this
  apply F_slices_Insert_Sapi_Attempt_api_Attempt_ok
  unfold F_slices_Insert_Sapi_Attempt_api_Attempt
  refine ⟨⟨by omega, by omega⟩, ?_⟩
  refine bsplit_dec (fun c1 => by simp at c1) (fun _ => ?_)
  refine bsplit_dec (fun c1 => ?_) (fun c1 => ?_)
  · obtain rfl : k = l.length := by omega
    refine H.appE encAt_ok hi sl_Ty_S_api_Attempt (zs := [x]) hxs (by simp; omega) (by simp; omega) ?_; intro a' c' w' H'
    have := h a' c' w' (by simpa using H')
    simpa using this
  have hlt : k < l.length := by omega
  obtain ⟨g0, rfl, hat, hnc⟩ := H.rowSome hi (by omega)
  have hne : g ≠ g0 := H.ne hj hi (Ne.symm hij) rfl hat
  refine kW_i64 (by omega) ?_
  refine bsplit_dec (fun c2 => ?_) (fun c2 => ?_)
  · -- no room
    refine ⟨⟨by omega, by omega⟩, ?_⟩
    refine kW_i64 (by omega) ?_
    refine kW_i64 (by omega) ?_
    rw [slA0, Int.toNat_natCast, Nat.sub_zero, Nat.sub_zero]
    refine H.growZ encAt_ok hi sl_Ty_S_api_Attempt (k2 := .i64) (by kernel_rfl) k (l.length + 1 - k) hk (by omega) (by omega) (by omega) (by omega) (by omega) (by omega) ?_
    intro g' c' w1 Z hc' hcm hZ H1
    have hlen : k + (l.length + 1 - k) = l.length + 1 := by omega
    rw [hlen] at hc' ⊢
    refine ⟨⟨by omega, by omega⟩, ?_⟩
    rw [slA (by omega)]
    obtain ⟨Y, Z1, Z2, rfl, hY, hZ1⟩ := splits (W := Z) (n := 4) (m := (l.length - k) * 4) (by omega)
    have hjl : j < R.length := get_lt hj
    have hil : i < R.length := get_lt hi
    have jj : ∀ {r : Res}, (R ++ [r])[j]? = some (.blk g t0 (encAt x)) := by intro r; rw [List.getElem?_append_left hjl]; exact hj
    have ii : ∀ {r : Res}, (R ++ [r])[i]? = some (.els encAt Ty_api_Attempt 4 (some ⟨g0, 0, none⟩) c l) := by intro r; rw [List.getElem?_append_left hil]; exact hi
    have nn : ∀ {r : Res}, (R ++ [r])[R.length]? = some r := by intro r; simp
    have st : ∀ {r s : Res}, (R ++ [r]).set R.length s = R ++ [s] := by intro r s; simp
    refine H1.copyB nn hut hsz ((l.take k).flatMap encAt) Y (Z1 ++ Z2) (encAt x) (by simp) hl1 (by rw [hY]; rfl) ?_ (hxc H1 jj) hone ?_
    · have : Nat.min 1 (l.length + 1 - k) = 1 := Nat.min_eq_left (by omega)
      rw [this]; rfl
    intro _ w2 H2
    rw [st] at H2
    refine H2.drew ?_; clear H2; intro w3 H3
    refine kW_i64 (by omega) ?_
    refine ⟨⟨by omega, by omega⟩, ⟨by omega, by omega⟩, ?_⟩
    have ek : ((k : Int) + ((1 : Nat) : Int)).toNat = k + 1 := by omega
    rw [ek, slA (by omega), slA (by omega)]
    refine H3.copyB nn hut hsz ((l.take k).flatMap encAt ++ encAt x) Z1 Z2 ((l.drop k).flatMap encAt) (by simp) (by rw [List.length_append, hl1, encAt_ok.len]; omega) (by rw [hZ1, hl2]) ?_ ?_ hone2 ?_
    · have : Nat.min (l.length - k) (l.length + 1 - (k + 1)) = l.length - k := Nat.min_eq_left (by omega)
      rw [this, hl2]
    · intro q v hv
      have := H3.cellRow (o := k * 4 + q) ii (by rw [hsp, ← hl1]; exact cat _ _ q v hv)
      rwa [add_mk]
    intro _ w4 H4
    rw [st] at H4
    have H5 := H4.lastAt (i := i) hil
    refine h _ _ _ (fin (Z := Z2) H5 (by rw [List.getElem?_set_self hil]) (by simp) (by omega) hcm ?_)
    simp only [List.length_append] at hZ
    omega
  · -- there is room
    refine kW_i64 (by omega) ?_
    refine ⟨⟨by omega, by omega⟩, ?_⟩
    refine kW_i64 (by omega) ?_
    have ek : ((k : Int) + ((1 : Nat) : Int)).toNat = k + 1 := by omega
    have en : ((l.length : Int) + ((1 : Nat) : Int)).toNat = l.length + 1 := by omega
    simp only [ek, en, slA0, Nat.sub_zero, Int.toNat_natCast]
    refine ⟨⟨by omega, by omega⟩, ?_⟩
    obtain ⟨rest, hr1, hcm, _, H1⟩ := H.rowBlk hi
    rw [flat_len encAt_ok] at hr1
    have hil : i < R.length := get_lt hi
    have jj : ∀ {r : Res}, (R.set i r)[j]? = some (.blk g t0 (encAt x)) := by intro r; rw [List.getElem?_set_ne hij]; exact hj
    have ii : ∀ {r : Res}, (R.set i r)[i]? = some r := by intro r; rw [List.getElem?_set_self hil]
    have st : ∀ {r s : Res}, (R.set i r).set i s = R.set i s := by intro r s; simp
    rw [slA (by omega)]
    refine overlaps_ext (tR := Ty_bool) (Try.func43) (by kernel_rfl) (by kernel_rfl) (by kernel_rfl) (by kernel_rfl) hut hsz hne (H1.ok j _ jj) (H1.ok i _ ii) (by simp; omega) ?_
    refine ⟨_, rfl, ?_⟩
    refine bsplit_intro (fun _ => ?_) (fun c => by cases c)
    refine H1.drew ?_; clear H1; intro w2 H2
    refine kW_i64 (by omega) ?_
    simp only [ek]
    refine ⟨⟨by omega, by omega⟩, ⟨by omega, by omega⟩, ?_⟩
    rw [slA (by omega), slA (by omega)]
    rw [hsp, List.append_assoc] at H2
    obtain ⟨Y, Z1, Z2, hYZ, hY, hZ1⟩ := splits (W := (l.drop k).flatMap encAt ++ rest) (n := 4) (m := (l.length - k) * 4) (by simp only [List.length_append, hl2]; omega)
    refine H2.copyB ii hut hsz ((l.take k).flatMap encAt ++ Y) Z1 Z2 ((l.drop k).flatMap encAt) (by rw [hYZ]; simp) (by rw [List.length_append, hl1, hY]; omega) (by rw [hZ1, hl2]) ?_ ?_ hone2 ?_
    · have : Nat.min (l.length + 1 - k) (l.length + 1 - (k + 1)) = l.length - k := by
        rw [show l.length + 1 - (k + 1) = l.length - k by omega]; exact Nat.min_eq_right (by omega)
      rw [this, hl2]
    · intro q v hv
      have h9 : ((l.take k).flatMap encAt ++ ((l.drop k).flatMap encAt ++ rest))[k * 4 + q]? = some v := by
        rw [← hl1]
        refine cat _ _ q v ?_
        rw [List.getElem?_append_left (get_lt hv)]; exact hv
      have := H2.cell (o := k * 4 + q) ii h9
      rwa [add_mk]
    intro _ w3 H3
    rw [st] at H3
    refine ⟨⟨by omega, by omega⟩, ?_⟩
    refine H3.copyB ii hut hsz ((l.take k).flatMap encAt) Y ((l.drop k).flatMap encAt ++ Z2) (encAt x) (by simp) hl1 (by rw [hY]; rfl) ?_ (hxc H3 jj) hone ?_
    · have : Nat.min 1 (l.length + 1 - k) = 1 := Nat.min_eq_left (by omega)
      rw [this]; rfl
    intro _ w4 H4
    rw [st] at H4
    refine h _ _ _ (fin (Z := Z2) H4 (by rw [List.getElem?_set_self hil]; simp) (by simp) (by omega) hcm ?_)
    have := congrArg List.length hYZ
    simp only [List.length_append, hl2, hY, hZ1] at this
    omega
end
end Go.Proofs.Ytgmniohbnophdaa
