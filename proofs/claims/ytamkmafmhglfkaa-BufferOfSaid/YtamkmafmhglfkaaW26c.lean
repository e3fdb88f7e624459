import Derived.Test.YtamkmafmhglfkaaW26b
import Derived.Test.YtamkmafmhglfkaaTys
namespace Go.Proofs.Ytamkmafmhglfkaa
open Go.Sx Go.RowKit

def g4 (g : Int) : Int := g % 4
theorem bd_zero_iff {s : Int} (h0 : 0 ≤ s) (h1 : s ≤ 1048576) : lev s = 0 ↔ s = 0 := by
  obtain ⟨_, h2, h3⟩ := lev_spec h1
  have b0 : bd 0 = 0 := rfl
  constructor
  · intro h; rw [h, b0] at h3; omega
  · intro h
    rcases Nat.eq_zero_or_pos (lev s) with e | e
    · exact e
    · have := h2 0 e; omega

/-- the two rows that BufferOf fills -/
def TwoRows (B : Nat) (w : World) (wa : Option Addr) (wl wc : Nat) (ga : Option Addr) (gl gc : Nat) (xs ys : List Int) : Prop :=
  OwnI w (B + 1) Ty_int .i64 wa wl wc xs ∧ OwnI w (B + 1) Ty_int .i64 ga gl gc ys ∧ (∀ g, ob wa = some g → ob ga ≠ some g)

section
variable {B : Nat} {w : World} {wa ga : Option Addr} {wl wc gl gc : Nat} {xs ys : List Int}
theorem TwoRows.alloc (h : TwoRows B w wa wl wc ga gl gc xs ys) (o : Obj) : TwoRows B (w.alloc o) wa wl wc ga gl gc xs ys :=
  ⟨⟨h.1.1, h.1.2.alloc o⟩, ⟨h.2.1.1, h.2.1.2.alloc o⟩, h.2.2⟩
theorem TwoRows.set (h : TwoRows B w wa wl wc ga gl gc xs ys) {p : Addr} (hp : p.block ≤ B) (v : Value) : TwoRows B (w.setCell p v) wa wl wc ga gl gc xs ys :=
  ⟨⟨h.1.1, h.1.2.far (fun e => by have := (h.1.lt e).1; omega) v⟩, ⟨h.2.1.1, h.2.1.2.far (fun e => by have := (h.2.1.lt e).1; omega) v⟩, h.2.2⟩
end
theorem TwoRows.drew {B : Nat} {w : World} {wa ga : Option Addr} {wl wc gl gc : Nat} {xs ys : List Int} (h : TwoRows B w wa wl wc ga gl gc xs ys) : TwoRows B w.drew wa wl wc ga gl gc xs ys := h

/-- one append to the first row -/
theorem two_app1 {B : Nat} {w0 w : World} {wa ga : Option Addr} {wl wc gl gc : Nat} {xs ys : List Int} {cs : Array Value} {b : Nat} {x : Int} {F : Option Addr → Nat → Nat → World → Prop}
    (h : TwoRows B w wa wl wc ga gl gc xs ys) (hS : Blk w B Ty_4_int cs) (hb : Blk w b Ty_int #[.int .i64 x]) (hB : Below B w0 w) (hsz : B + 1 ≤ w.heap.size) (hl : xs.length ≤ 100)
    (hF : ∀ a' l' c' w', TwoRows B w' a' l' c' ga gl gc (xs ++ [x]) ys → Blk w' B Ty_4_int cs → Below B w0 w' → w.heap.size ≤ w'.heap.size → (∀ k, k < w.heap.size → (∀ g, ob wa = some g → k ≠ g) → w'.heap[k]? = w.heap[k]?) →
      (∀ g, ob a' = some g → ob wa = some g ∨ w.heap.size ≤ g) → F a' l' c' w') :
    AppP Try.prog #[Ty_S_int, Ty_S_int] Ty_S_int #[.slice wa wl wc, .slice (some ⟨b, 0, none⟩) 1 1] w F := by
  obtain ⟨h1, h2, h3⟩ := h
  have hwl := h1.1
  refine h1.app (m := 1) sl_Ty_S_int (news := [x]) rfl (fun j y hy => ?_) (by omega) (by omega) (by omega) fun a' c' w' ho hg hob => ?_
  · cases j with
    | zero => simp at hy; subst hy; rw [add_mk]; exact hb.cell0 0 rfl
    | succ j => simp at hy
  · have hrow : ∀ k, ob wa = some k → B ≤ k := fun k hk => by have := (h1.lt hk).1; omega
    have hold : ∀ k, k < w.heap.size → (∀ g, ob wa = some g → k ≠ g) → w'.heap[k]? = w.heap[k]? := fun k hk hne => hg.block k hk (fun e => hne k e.symm rfl)
    have hnew : ∀ g, ob a' = some g → ob wa = some g ∨ w.heap.size ≤ g := fun g hgg => by
      rcases hob with e | e
      · left; rw [← e]; exact hgg
      · right; rw [e] at hgg; injection hgg with hgg; omega
    refine hF a' (wl + 1) c' w' ⟨ho, h2.keep (fun g hgg => hold g (h2.lt hgg).2 (fun g' hg' e => h3 g' hg' (by rw [← e]; exact hgg))), fun g hgg => ?_⟩ ?_ (hB.grown hg (by omega) hrow) hg.size hold hnew
    · rcases hnew g hgg with e | e
      · exact h3 g e
      · intro hga; have := (h2.lt hga).2; omega
    · exact (hold B (by omega) (fun g hgg e => by have := (h1.lt hgg).1; omega)).trans hS
theorem two_swap {B : Nat} {w : World} {wa ga : Option Addr} {wl wc gl gc : Nat} {xs ys : List Int} (h : TwoRows B w wa wl wc ga gl gc xs ys) : TwoRows B w ga gl gc wa wl wc ys xs :=
  ⟨h.2.1, h.1, fun g hg hw => h.2.2 g hw hg⟩

/-- and one to the second row -/
theorem two_app2 {B : Nat} {w0 w : World} {wa ga : Option Addr} {wl wc gl gc : Nat} {xs ys : List Int} {cs : Array Value} {b : Nat} {x : Int} {F : Option Addr → Nat → Nat → World → Prop}
    (h : TwoRows B w wa wl wc ga gl gc xs ys) (hS : Blk w B Ty_4_int cs) (hb : Blk w b Ty_int #[.int .i64 x]) (hB : Below B w0 w) (hsz : B + 1 ≤ w.heap.size) (hl : ys.length ≤ 100)
    (hF : ∀ a' l' c' w', TwoRows B w' wa wl wc a' l' c' xs (ys ++ [x]) → Blk w' B Ty_4_int cs → Below B w0 w' → w.heap.size ≤ w'.heap.size → F a' l' c' w') :
    AppP Try.prog #[Ty_S_int, Ty_S_int] Ty_S_int #[.slice ga gl gc, .slice (some ⟨b, 0, none⟩) 1 1] w F :=
  two_app1 (two_swap h) hS hb hB hsz hl fun a' l' c' w' h1 h2 h3 h4 _ _ => hF a' l' c' w' (two_swap h1) h2 h3 h4

theorem law_of {a b : Option Addr} {c1 c2 : Nat} {ws gs : List Int} {w : World} (ha : SlR (IntC .u16) 1 w a ws) (hb : SlR (IntC .u8) 1 w b gs)
    (hws : ∀ i (h : i < ws.length), 0 ≤ ws[i] ∧ ws[i] ≤ 65535) (hgs : ∀ i (h : i < gs.length), 0 ≤ gs[i] ∧ gs[i] ≤ 255) (hl1 : ws.length ≤ 9223372036854775807) (hl2 : gs.length ≤ 9223372036854775807) :
    Calls Try.prog N_law26_BufferOf #[.slice a ws.length c1, .slice b gs.length c2] w fun e w' => e = .returned (.bool true) ∧ Below w.heap.size w w' := by
  apply F_law26_BufferOf_ok
  unfold F_law26_BufferOf
  obtain ⟨n, hn, hn8, hnw, hng⟩ : ∃ n : Nat, (if (8 : Int) < (if (gs.length : Int) < (ws.length : Int) then (gs.length : Int) else (ws.length : Int)) then (8 : Int) else (if (gs.length : Int) < (ws.length : Int) then (gs.length : Int) else (ws.length : Int))) = n ∧
      n ≤ 8 ∧ n ≤ ws.length ∧ n ≤ gs.length := by
    refine ⟨min 8 (min gs.length ws.length), ?_, by omega, by omega, by omega⟩
    split <;> split <;> omega
  rw [hn]
  intro n0
  have hn0 : n0 = (n : Int) := rfl
  clear_value n0
  subst hn0
  intro w1
  have hS : Blk w1 w.heap.size Ty_4_int (arrN .i64 4 fun _ => 0) := Blk.new w _ _
  have h1 : Below w.heap.size w w1 := (Below.refl _ _).alloc (Nat.le_refl _) _
  have hs1 : w1.heap.size = w.heap.size + 1 := by simp [w1]
  clear_value w1
  let vs := fun k => ws.take k
  let us := fun k => (gs.take k).map (· % 4)
  have hvl : ∀ k, k ≤ n → (vs k).length = k := fun k hk => by simp [vs]; omega
  have hul : ∀ k, k ≤ n → (us k).length = k := fun k hk => by simp [us]; omega
  have hvs : ∀ k (h : k < ws.length), k < n → vs (k + 1) = vs k ++ [ws[k]] := fun k h _ => List.take_succ_eq_append_getElem h
  have hus : ∀ k (h : k < gs.length), k < n → us (k + 1) = us k ++ [gs[k] % 4] := fun k h _ => by simp only [us]; rw [List.take_succ_eq_append_getElem h, List.map_append]; rfl
  have hsum : ∀ k (h1 : k < ws.length) (h2 : k < gs.length), k < n → ∀ j, sumG (vs (k + 1)) (us (k + 1)) j = sumG (vs k) (us k) j + if gs[k] % 4 = j then ws[k] else 0 := fun k h1 h2 hk j => by
    rw [hvs k h1 hk, hus k h2 hk]; unfold sumG; rw [List.zip_append (by rw [hvl k (by omega), hul k (by omega)])]; simp
  have hsb : ∀ k, k ≤ n → ∀ j, 0 ≤ sumG (vs k) (us k) j ∧ sumG (vs k) (us k) j ≤ 65535 * k := by
    intro k
    induction k with
    | zero => intro _ j; simp [vs, us, sumG]
    | succ k ih =>
      intro hk j
      have := ih (by omega) j
      have hw := hws k (by omega)
      rw [hsum k (by omega) (by omega) (by omega)]
      split <;> omega
  refine ⟨fun wa wl wc ga gl gc i => ((n - i).toNat, fun w2 => ∃ k : Nat, i = k ∧ k ≤ n ∧ wl = k ∧ gl = k ∧ TwoRows w.heap.size w2 wa wl wc ga gl gc (vs k) (us k) ∧
    Blk w2 w.heap.size Ty_4_int (arrN .i64 4 fun j => sumG (vs k) (us k) j) ∧ Below w.heap.size w w2 ∧ w.heap.size + 1 ≤ w2.heap.size), ?_, ?_⟩
  · exact ⟨0, rfl, by omega, rfl, rfl, ⟨OwnI.nil_ .., OwnI.nil_ .., fun g hg => by simp [ob] at hg⟩, by simpa [vs, us, sumG] using hS, h1, by omega⟩
  rintro _ wa wl wc ga gl gc i w2 ⟨k, rfl, hk, rfl, hgl, hrows, hS2, h2, hs2⟩
  refine bsplit_dec (fun hlt => ?_) (fun hge => ?_)
  · have hlt : wl < n := by omega
    have hcw := hws wl (by omega)
    have hcg := hgs wl (by omega)
    refine ⟨fun wa' wl' wc' ga' gl' gc' w15 => wl' = wl + 1 ∧ gl' = wl + 1 ∧ TwoRows w.heap.size w15 wa' wl' wc' ga' gl' gc' (vs (wl + 1)) (us (wl + 1)) ∧
      Blk w15 w.heap.size Ty_4_int (arrN .i64 4 fun j => sumG (vs wl) (us wl) j) ∧ Below w.heap.size w w15 ∧ w.heap.size + 1 ≤ w15.heap.size, ?_, ?_⟩
    · rintro _ wa' wl' wc' ga' gl' gc' w15 ⟨rfl, rfl, hrows', hS', h15, hs15⟩
      intro w16
      have hgv : (us (wl + 1))[wl]? = some (gs[wl] % 4) := by rw [hus wl (by omega) hlt]; simp [hul wl (by omega)]
      have hwv : (vs (wl + 1))[wl]? = some ws[wl] := by rw [hvs wl (by omega) hlt]; simp [hvl wl (by omega)]
      obtain ⟨hgi, hge⟩ := List.getElem?_eq_some_iff.1 hgv
      obtain ⟨hwi, hwe⟩ := List.getElem?_eq_some_iff.1 hwv
      obtain ⟨q, rfl, hq⟩ := hrows'.2.1.sl.get hgi
      obtain ⟨p, rfl, hp⟩ := hrows'.1.sl.get hwi
      rw [hge] at hq
      rw [hwe] at hp
      have hb := hsb wl (by omega) ((gs[wl] % 4).toNat : Nat)
      refine ⟨q, rfl, ⟨by omega, by omega⟩, _, hq, ⟨by omega, by omega⟩, sumG (vs wl) (us wl) (gs[wl] % 4).toNat, ?_, p, rfl, ⟨by omega, by omega⟩, _, hp, ⟨by omega, by omega⟩, ?_, ?_, ?_⟩
      · rw [nb_add, Nat.mul_one]; exact hS'.cell0 _ (arrN_get (by omega))
      · rw [nb_add, Nat.mul_one]; exact hS'.has (i := (gs[wl] % 4).toNat) (by rw [arrN_size]; omega)
      · rw [nb_add]; exact hS'.frozen _
      · intro w17 i1
        have e1 : i1 = ((wl + 1 : Nat) : Int) := by simp only [i1]; rw [wrap_id _ (by omega)]; omega
        have e17 : w17 = w15.drew.setCell ⟨w.heap.size, (gs[wl] % 4).toNat, none⟩ (.int .i64 (sumG (vs wl) (us wl) (gs[wl] % 4).toNat + ws[wl])) := by
          simp only [w17]; rw [nb_add, Nat.mul_one, wrap_id _ (by omega)]
        clear_value w17
        subst e17
        rw [e1]
        refine ⟨⟨wl + 1, rfl, by omega, rfl, rfl, hrows'.drew.set (by simp) _, ?_, h15.drew.setCell (by simp) _, by simp; omega⟩, by simp; omega⟩
        have := hS'.drew.set (gs[wl] % 4).toNat (.int .i64 (sumG (vs wl) (us wl) (gs[wl] % 4).toNat + ws[wl]))
        rw [arrN_set] at this
        refine (arrN_congr fun j hj => ?_) ▸ this
        rw [hsum wl (by omega) (by omega) hlt]
        by_cases hjg : j = (gs[wl] % 4).toNat
        · rw [if_pos hjg, if_pos (by omega), hjg]
        · rw [if_neg hjg, if_neg (by omega)]; omega
    · intro w3
      obtain ⟨p, rfl, hp⟩ := (ha.below h2.drew).get (i := wl) (by omega)
      obtain ⟨q, rfl, hq⟩ := (hb.below h2.drew).get (i := wl) (by omega)
      have hp : IntC .u16 w3 (p.add (wl * 1)) ws[wl] := hp
      have hq : IntC .u8 w3 (q.add (wl * 1)) gs[wl] := hq
      have hr3 : TwoRows w.heap.size w3 wa wl wc ga gl gc (vs wl) (us wl) := hrows.drew
      have hS3 : Blk w3 w.heap.size Ty_4_int (arrN .i64 4 fun j => sumG (vs wl) (us wl) j) := hS2.drew
      have h3 : Below w.heap.size w w3 := h2.drew
      have hs3 : w.heap.size + 1 ≤ w3.heap.size := hs2
      have hpb : (p.add (wl * 1)).block < w.heap.size := by
        obtain ⟨p', hp', hc'⟩ := ha.get (i := wl) (by omega)
        injection hp' with hp'; subst hp'; exact cell_lt hc'
      have hqb : (q.add (wl * 1)).block < w.heap.size := by
        obtain ⟨q', hq', hc'⟩ := hb.get (i := wl) (by omega)
        injection hq' with hq'; subst hq'; exact cell_lt hc'
      clear_value w3
      have hvlen : (vs wl).length ≤ 100 := by rw [hvl wl (by omega)]; omega
      have hulen : (us wl).length ≤ 100 := by rw [hul wl (by omega)]; omega
      have keep : ∀ {w' : World}, Below w.heap.size w w' → KeepsB (· < w.heap.size) w3 w' := fun h' x u hx hc => by
        rw [h'.cell hx]; rw [h3.cell hx] at hc; exact hc
      have fin : ∀ (a1 : Option Addr) (l1 c1 : Nat) (a2 : Option Addr) (l2 c2 : Nat) (w' : World), TwoRows w.heap.size w' a1 l1 c1 a2 l2 c2 (vs wl ++ [ws[wl]]) (us wl ++ [gs[wl] % 4]) →
          Blk w' w.heap.size Ty_4_int (arrN .i64 4 fun j => sumG (vs wl) (us wl) j) → Below w.heap.size w w' → w.heap.size + 1 ≤ w'.heap.size →
          (l1 = wl + 1 ∧ l2 = wl + 1 ∧ TwoRows w.heap.size w' a1 l1 c1 a2 l2 c2 (vs (wl + 1)) (us (wl + 1)) ∧ Blk w' w.heap.size Ty_4_int (arrN .i64 4 fun j => sumG (vs wl) (us wl) j) ∧ Below w.heap.size w w' ∧ w.heap.size + 1 ≤ w'.heap.size) := by
        intro a1 l1 c1 a2 l2 c2 w' h1 h2 h3 h4
        rw [hvs wl (by omega) hlt, hus wl (by omega) hlt]
        have e1 := h1.1.1
        have e2 := h1.2.1.1
        simp only [List.length_append, List.length_singleton, hvl wl (by omega), hul wl (by omega)] at e1 e2
        exact ⟨e1, e2, h1, h2, h3, h4⟩
      -- what a new cell leaves as it was
      have new : ∀ (w4 : World) (o : Obj), Below w.heap.size w w4 → w.heap.size + 1 ≤ w4.heap.size → Below w.heap.size w (w4.alloc o) ∧ w.heap.size + 1 ≤ (w4.alloc o).heap.size := fun w4 o h hs => ⟨h.alloc (by omega) o, by simp; omega⟩
      refine ⟨(· < w.heap.size), p, rfl, ⟨by omega, by omega⟩, hpb, _, hp, q, rfl, ⟨by omega, by omega⟩, hqb, _, hq, ?_, ?_, trivial⟩
      · rw [wrap_id ws[wl] (by omega), Int.tmod_eq_emod_of_nonneg hcg.1, wrap_id (gs[wl] % 4) (by omega)]
        intro w8
        obtain ⟨n8, z8⟩ : Below w.heap.size w w8 ∧ w.heap.size + 1 ≤ w8.heap.size := new w3 _ h3 hs3
        refine ⟨keep n8, ?_, ?_, trivial⟩
        · refine two_app1 (hr3.alloc _) (hS3.alloc _) (Blk.new w3 _ _) n8 z8 hvlen fun a1 l1 c1 w12 r1 s1 b1 z1 _ _ => ?_
          obtain ⟨n13, z13⟩ := new w12 (.cells #[.int .i64 (gs[wl] % 4)] Ty_int) b1 (by omega)
          refine ⟨keep b1, keep n13, ?_⟩
          refine two_app2 (r1.alloc _) (s1.alloc _) (Blk.new w12 _ _) n13 z13 hulen fun a2 l2 c2 w14 r2 s2 b2 z2 => ?_
          exact ⟨keep b2, fin _ _ _ _ _ _ _ r2 s2 b2 (by omega)⟩
        · intro w9
          obtain ⟨n9, z9⟩ : Below w.heap.size w w9 ∧ w.heap.size + 1 ≤ w9.heap.size := new w8 _ n8 z8
          refine ⟨keep n9, ?_⟩
          refine two_app1 ((hr3.alloc _).alloc _) ((hS3.alloc _).alloc _) ((Blk.new w3 _ _).alloc _) n9 z9 hvlen fun a1 l1 c1 w12 r1 s1 b1 z1 hold hnew => ?_
          refine ⟨keep b1, ?_⟩
          have hg : Blk w12 w8.heap.size Ty_int #[.int .i64 (gs[wl] % 4)] := (hold _ (by simp [w9]) (fun g hg => by
            have := (hr3.1.lt hg).2; simp [w8]; omega)).trans (Blk.new w8 _ _)
          refine two_app2 r1 s1 hg b1 (by omega) hulen fun a2 l2 c2 w14 r2 s2 b2 z2 => ?_
          exact ⟨keep b2, fin _ _ _ _ _ _ _ r2 s2 b2 (by omega)⟩
      · rw [wrap_id ws[wl] (by omega), Int.tmod_eq_emod_of_nonneg hcg.1, wrap_id (gs[wl] % 4) (by omega)]
        intro w4
        obtain ⟨n4, z4⟩ : Below w.heap.size w w4 ∧ w.heap.size + 1 ≤ w4.heap.size := new w3 _ h3 hs3
        refine ⟨keep n4, ?_⟩
        intro w5
        obtain ⟨n5, z5⟩ : Below w.heap.size w w5 ∧ w.heap.size + 1 ≤ w5.heap.size := new w4 _ n4 z4
        refine ⟨keep n5, ?_⟩
        refine two_app1 ((hr3.alloc _).alloc _) ((hS3.alloc _).alloc _) (Blk.new w4 _ _) n5 z5 hvlen fun a1 l1 c1 w6 r1 s1 b1 z1 hold hnew => ?_
        refine ⟨keep b1, ?_⟩
        have hg : Blk w6 w3.heap.size Ty_int #[.int .i64 (gs[wl] % 4)] := (hold _ (by simp [w5, w4]; omega) (fun g hg => by
          have := (hr3.1.lt hg).2; omega)).trans ((Blk.new w3 _ _).alloc _)
        refine two_app2 r1 s1 hg b1 (by omega) hulen fun a2 l2 c2 w7 r2 s2 b2 z2 => ?_
        exact ⟨keep b2, fin _ _ _ _ _ _ _ r2 s2 b2 (by omega)⟩
  · obtain rfl : wl = n := by omega
    subst hgl
    have hE : ofE (vs gl) (us gl) = 0 := by
      rw [ofE, hvl gl (by omega), hul gl (by omega), if_neg (by omega), if_neg]
      rintro ⟨i, hi, hbad⟩
      rw [getD_at (by rw [hvl gl (by omega)]; exact hi), getD_at (by rw [hul gl (by omega)]; exact hi)] at hbad
      simp only [vs, us, List.getElem_take, List.getElem_map] at hbad
      have := hws i (by omega)
      unfold badAt at hbad
      omega
    have hL : ∀ j, ofL (vs gl) (us gl) j = lev (sumG (vs gl) (us gl) j) := fun j => by rw [ofL, if_pos hE]
    have call := of_ok (c1 := wc) (c2 := gc) hrows.1.sl hrows.2.1.sl
    rw [hvl gl (by omega), hul gl (by omega)] at call
    refine call.mono ?_
    rintro _ w18 ⟨rfl, b18⟩
    have h18 := below_step h2 (by omega) b18
    have hS18 := hS2.below b18 (by omega)
    have hr18 : TwoRows w.heap.size w18 wa gl wc ga gl gc (vs gl) (us gl) := ⟨⟨hrows.1.1, hrows.1.2.below b18 (Nat.le_refl _)⟩, ⟨hrows.2.1.1, hrows.2.1.2.below b18 (Nat.le_refl _)⟩, hrows.2.2⟩
    have z18 := b18.size
    refine ⟨_, _, _, _, _, rfl, ?_⟩
    intro w19
    have hN : Blk w19 w18.heap.size Ty_api_Waiting (arrN .i64 4 fun _ => 0) := Blk.new w18 _ _
    have hS19 := hS18.alloc (.cells #[Value.int .i64 0, .int .i64 0, .int .i64 0, .int .i64 0] Ty_api_Waiting)
    have hr19 := hr18.alloc (.cells #[Value.int .i64 0, .int .i64 0, .int .i64 0, .int .i64 0] Ty_api_Waiting)
    have h19 : Below w.heap.size w w19 := h18.alloc (by omega) _
    refine blk_storeAll hN rfl rfl fun w20 hN20 s20 => ?_
    have hS20 := Blk.but hS19 s20 (by omega)
    have h20 := h19.but s20 (by omega)
    have hr20 : TwoRows w.heap.size w20 wa gl wc ga gl gc (vs gl) (us gl) :=
      ⟨⟨hr19.1.1, hr19.1.2.keep fun g hg => s20.block g (fun e => by have := (hr18.1.lt hg).2; omega)⟩, ⟨hr19.2.1.1, hr19.2.1.2.keep fun g hg => s20.block g (fun e => by have := (hr18.2.1.lt hg).2; omega)⟩, hr19.2.2⟩
    have hN20 : Blk w20 w18.heap.size Ty_api_Waiting (arrN .i64 4 fun j => lev (sumG (vs gl) (us gl) j)) := by
      refine (arrN_congr fun j _ => ?_) ▸ (show Blk w20 w18.heap.size Ty_api_Waiting (arrN .i64 4 (ofL (vs gl) (us gl))) from hN20)
      exact hL j
    clear hN hS19 hr19 h19
    have z20 : w18.heap.size + 1 ≤ w20.heap.size := by rw [s20.size]; simp [w19]
    refine ⟨fun i => ((4 - i).toNat, fun w21 => ∃ k : Nat, i = k ∧ k ≤ 4 ∧ Below w20.heap.size w20 w21), ⟨0, rfl, by omega, .refl _ _⟩, ?_⟩
    rintro _ i w21 ⟨k, rfl, hk4, h21⟩
    have hN21 := hN20.below h21 (by omega)
    have hS21 := hS20.below h21 (by omega)
    refine bsplit_dec (fun hlt => ?_) (fun hge => ?_)
    · have hlt : k < 4 := by omega
      intro w22
      have hN22 : Blk w22 w18.heap.size Ty_api_Waiting (arrN .i64 4 fun j => lev (sumG (vs gl) (us gl) j)) := hN21
      have hS22 : Blk w22 w.heap.size Ty_4_int (arrN .i64 4 fun j => sumG (vs gl) (us gl) j) := hS21
      have h22 : Below w20.heap.size w20 w22 := h21.drew
      clear_value w22
      have hb := hsb gl (by omega) k
      obtain ⟨l1, l2, l3⟩ := lev_spec (n := sumG (vs gl) (us gl) k) (by omega)
      have hcN : w22.cell? ((nb w18).add ((k : Int).toNat * 1)) = some (.int .i64 (lev (sumG (vs gl) (us gl) k))) := by
        rw [nb_add, Int.toNat_natCast, Nat.mul_one]; exact hN22.cell0 k (arrN_get hlt)
      have hcS : w22.cell? ((nb w).add ((k : Int).toNat * 1)) = some (.int .i64 (sumG (vs gl) (us gl) k)) := by
        rw [nb_add, Int.toNat_natCast, Nat.mul_one]; exact hS22.cell0 k (arrN_get hlt)
      have hbN : ((nb w18).add ((k : Int).toNat * 1)).block < w22.heap.size := cell_lt hcN
      have hbS : ((nb w).add ((k : Int).toNat * 1)).block < w22.heap.size := cell_lt hcS
      refine ⟨(· < w22.heap.size), ⟨by omega, by omega⟩, hbN, _, hcN, ⟨by omega, by omega⟩, hbS, _, hcS, ?_⟩
      refine (bound_ok _ w22).mono ?_
      rintro _ w23 ⟨rfl, b23⟩
      refine ⟨_, rfl, b23.keeps, ?_⟩
      rw [bound_lev l1]
      refine bsplit_dec (fun h => absurd l3 (by omega)) (fun _ => ?_)
      refine ⟨⟨by omega, by omega⟩, hbN, _, hcN, ⟨by omega, by omega⟩, hbS, _, hcS, ?_⟩
      refine bsplit_intro (fun h => ?_) (fun _ => ?_)
      · exfalso
        have := bd_zero_iff hb.1 (by omega)
        simp only [Bool.not_eq_true', beq_eq_false_iff_ne, ne_eq] at h
        apply h
        rw [Bool.eq_iff_iff]
        simp only [beq_iff_eq]
        omega
      · intro i4
        have e4 : i4 = ((k + 1 : Nat) : Int) := by simp only [i4]; rw [wrap_id _ (by omega)]; omega
        rw [e4]
        exact ⟨⟨k + 1, rfl, by omega, below_step h22 (Nat.le_refl _) b23⟩, by simp; omega⟩
    · refine bsplit_intro (fun _ => ?_) (fun h => by simp [hE] at h)
      have hr21 : OwnI w21 (w.heap.size + 1) Ty_int .i64 wa gl wc (vs gl) := ⟨hr20.1.1, hr20.1.2.below h21 (Nat.le_refl _)⟩
      have call := sameInts_ok (c1 := wc) (c2 := wc) hr21.sl hr21.sl (by rw [hvl gl (by omega)]; omega)
      rw [hvl gl (by omega)] at call
      refine call.mono ?_
      rintro _ w24 ⟨rfl, b24⟩
      refine ⟨_, rfl, ?_⟩
      refine bsplit_intro (fun _ => ?_) (fun h => by simp at h)
      refine (awake_ok w24).mono ?_
      rintro _ w25 ⟨rfl, b25⟩
      exact ⟨_, rfl, rfl, below_step (below_step (below_step h20 (Nat.le_refl _) (h21.mono (by omega))) (Nat.le_refl _) b24) (Nat.le_refl _) b25⟩
end Go.Proofs.Ytamkmafmhglfkaa
