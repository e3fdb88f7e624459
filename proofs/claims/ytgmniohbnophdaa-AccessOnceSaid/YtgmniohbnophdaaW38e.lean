import Derived.Test.YtgmniohbnophdaaW38d
/- CHAPTER 38: clone, with, put, Begin (both). -/
set_option maxRecDepth 100000
namespace Go.Proofs.Ytgmniohbnophdaa
open Go.Sx Go.RowKit Go.P38
section
variable {A0 : Nat → Prop} {M : List Nat} {w0 w w' : World} {R : List Res} {P : World → Prop}
/-- a call that leans on what is held and hands out what is held -/
theorem St.callH (H : St A0 M w0 w R P) : ∃ A, Held A w P ∧ ∀ {w' : World} {Q : World → Prop}, St A [] w w' [] Q → St A0 M w0 w' R fun w => Q w ∧ P w := by
  obtain ⟨A, hA, hc⟩ := H.call
  refine ⟨A, hA, fun {w' Q} K => ?_⟩
  have := hc K
  rwa [List.append_nil] at this
theorem keepB1 {b : Nat} {T : TypeId} {cs : Array Value} (h : Blk w b T cs) (h' : Blk w' b T cs) : KeepsB (fun x => x = b) w w' := fun p u hp hc =>
  (World.cell?_of_block (w := w) (by rw [hp]; exact h'.trans h.symm)).trans hc
theorem keepB2 {S S' : Nat → Prop} (h : KeepsB S w w') (h' : KeepsB S' w w') : KeepsB (fun x => S x ∨ S' x) w w' := fun p u hp hc => hp.elim (fun q => h p u q hc) (fun q => h' p u q hc)
end
/-- an access that is handed out: what it leans on is held -/
def RetH (A : Nat → Prop) (w : World) (mk : Value → Value) (a : Ac) (e : Ending) (w' : World) : Prop :=
  ∃ p c, e = .returned (mk (aggAc a p c)) ∧ a.l.length ≤ c ∧ St A [] w w' [] fun w => SlR (CE encAt) 4 w p a.l
section
variable {A : Nat → Prop} {w : World} {p : Option Addr} {c : Nat} {a : Ac} {id tick : Int} {x : At}
theorem clone_ac (hs : SlR (CE encAt) 4 w p a.l) (hl : a.l.length ≤ 1000000) : Calls Try.prog N_access_clone #[aggAc a p c] w fun e w' => ∃ p' c', e = .returned (aggAc a p' c') ∧ FreshR w w' [.els encAt Ty_api_Attempt 4 p' c' a.l] := by
  apply F_access_clone_ok
  unfold F_access_clone
  have H := St.nil w
  refine H.alloc ?_; clear H; intro b w1 H1
  refine H1.alloc ?_; clear H1; intro b1 w2 H2
  refine H2.ldS (i := 0) rfl rfl ?_
  refine (clone_ats (hs.belowE H2.below) hl).mono ?_
  rintro _ w3 ⟨p', c', rfl, K3⟩
  have H3 := H2.callR K3
  refine ⟨_, _, _, rfl, ?_⟩
  refine H3.set (i := 0) rfl (by simp) ?_; clear H3; intro w4 H4
  refine ⟨_, _, _, _, _, _, H4.cells (i := 0) rfl, ?_⟩
  refine H4.store (i := 1) rfl (by rfl) (by rfl) ?_; clear H4; intro w5 H5
  refine ⟨_, _, _, _, _, _, H5.cells (i := 1) rfl, ?_⟩
  refine ⟨p', c', rfl, ?_⟩
  exact H5.sub (fun _ => 2) (fun i r h => by
    cases i with
    | zero => exact h
    | succ i => simp at h) (fun i j hi hj _ => by simp at hi hj; omega)
/-- a fresh row that is shared -/
theorem fresh_held {l : List At} {w w' : World} {p' : Option Addr} {c' : Nat} (K : FreshR w w' [.els encAt Ty_api_Attempt 4 p' c' l]) : l.length ≤ c' ∧ ∀ A, St A [] w w' [] fun w => SlR (CE encAt) 4 w p' l := by
  refine ⟨K.capE (i := 0) rfl, fun A => ?_⟩
  have := K.shareE encAt_ok (i := 0) rfl
  exact (this.weaken0.fin).imp fun _ h => h.1
theorem clone_H (hs : SlR (CE encAt) 4 w p a.l) (hl : a.l.length ≤ 1000000) (A : Nat → Prop) : Calls Try.prog N_access_clone #[aggAc a p c] w (RetH A w (fun v => v) a) := by
  refine (clone_ac hs hl).mono ?_
  rintro e w' ⟨p', c', rfl, K⟩
  obtain ⟨h1, h2⟩ := fresh_held K
  exact ⟨p', c', rfl, h1, h2 A⟩
theorem with_ct (hs : SlR (CE encAt) 4 w p a.l) (hl : a.l.length ≤ 900000) (hm : ∀ i j (hi : i < a.l.length) (hj : j < a.l.length), i ≤ j → bef a.l[j] x = true → bef a.l[i] x = true) :
    Calls Try.prog N_access_with #[aggAc a p c, aggAt x] w fun e w' => ∃ p' c', e = .returned (aggAc { a with l := putR a.l x } p' c') ∧ FreshR w w' [.els encAt Ty_api_Attempt 4 p' c' (putR a.l x)] := by
  apply F_access_with_ok
  unfold F_access_with
  have H := St.nil w
  refine H.alloc ?_; clear H; intro b w1 H1
  refine H1.alloc ?_; clear H1; intro b1 w2 H2
  refine H2.alloc ?_; clear H2; intro b2 w3 H3
  refine H3.ldS (i := 0) rfl rfl ?_
  refine ⟨_, _, _, _, H3.cells (i := 1) rfl, ?_⟩
  refine (search_ct (hs.belowE H3.below) (by omega) x hm).mono ?_
  rintro _ w4 ⟨k, f, rfl, hk, hput, hb4⟩; have H4 := H3.pass hb4; clear H3
  refine ⟨_, _, rfl, ?_⟩
  refine H4.drew ?_; clear H4; intro w5 H5
  refine ⟨fun x => x = b ∨ x = b1, ?_⟩
  refine ⟨.inl rfl, ?_⟩
  refine H5.ldS (i := 0) rfl rfl ?_
  refine ⟨.inr rfl, ?_⟩
  refine ⟨_, _, _, _, H5.cells (i := 1) rfl, ?_⟩
  have len : (a.l.take k ++ x :: a.l.drop k).length = a.l.length + 1 := by simp; omega
  have fin : ∀ {w9 : World} {R : List Res} {p' : Option Addr} {c' : Nat} (n : Nat), St (fun _ => False) [] w w9 R (fun _ => True) → R[n]? = some (.els encAt Ty_api_Attempt 4 p' c' (a.l.take k ++ x :: a.l.drop k)) →
      ∃ p2 c2, Ending.returned (.agg #[.int .i64 a.pre, .int .i64 a.tries, .int .i64 a.back, .slice p' (a.l.length + 1) c']) = .returned (aggAc { a with l := putR a.l x } p2 c2) ∧ FreshR w w9 [.els encAt Ty_api_Attempt 4 p2 c2 (putR a.l x)] := fun {w9 R p' c'} n H9 h9 => by
    refine ⟨p', c', by rw [aggAc, hput, len], ?_⟩
    rw [hput]
    exact H9.sub (fun _ => n) (fun i r h => by
      cases i with
      | zero => simp only [List.getElem?_cons_zero, Option.some.injEq] at h; rw [← h]; exact h9
      | succ i => simp at h) (fun i j hi hj _ => by simp at hi hj; omega)
  refine ⟨?_, ?_, trivial⟩
  · refine (clone_ats (hs.belowE H5.below) (by omega)).mono ?_
    rintro _ w6 ⟨q, d, rfl, K6⟩; have H6 := H5.callR K6
    refine ⟨_, _, _, rfl, ?_⟩
    refine ⟨keepB2 (keepB1 (H5.ok 0 _ rfl) (H6.ok 0 _ rfl)) (keepB1 (H5.ok 1 _ rfl) (H6.ok 1 _ rfl)), ?_⟩
    refine H6.alloc ?_; intro b3 w7 H7
    refine ⟨keepB2 (keepB1 (H5.ok 0 _ rfl) (H7.ok 0 _ rfl)) (keepB1 (H5.ok 1 _ rfl) (H7.ok 1 _ rfl)), ?_⟩
    refine insert_ct H7 (i := 3) (j := 4) rfl (x := x) rfl hk (by omega) ?_
    intro q' d' w8 H8
    refine ⟨_, _, _, rfl, ?_⟩
    refine ⟨keepB2 (keepB1 (H5.ok 0 _ rfl) (H8.ok 0 _ rfl)) (keepB1 (H5.ok 1 _ rfl) (H8.ok 1 _ rfl)), ?_⟩
    refine H8.set (i := 0) rfl (by simp) ?_; intro w9 H9
    refine ⟨_, _, _, _, _, _, H9.cells (i := 0) rfl, ?_⟩
    refine H9.store (i := 2) rfl (by rfl) (by rfl) ?_; clear H9; intro w10 H10
    refine ⟨_, _, _, _, _, _, H10.cells (i := 2) rfl, ?_⟩
    exact fin 3 H10 rfl
  · refine H5.alloc ?_; intro b4 w11 H11
    refine ⟨keepB2 (keepB1 (H5.ok 0 _ rfl) (H11.ok 0 _ rfl)) (keepB1 (H5.ok 1 _ rfl) (H11.ok 1 _ rfl)), ?_⟩
    refine (clone_ats (hs.belowE H11.below) (by omega)).mono ?_
    rintro _ w12 ⟨q, d, rfl, K12⟩; have H12 := H11.callR K12
    refine ⟨_, _, _, rfl, ?_⟩
    refine ⟨keepB2 (keepB1 (H5.ok 0 _ rfl) (H12.ok 0 _ rfl)) (keepB1 (H5.ok 1 _ rfl) (H12.ok 1 _ rfl)), ?_⟩
    refine insert_ct H12 (i := 4) (j := 3) rfl (x := x) rfl hk (by omega) ?_
    intro q' d' w13 H13
    refine ⟨_, _, _, rfl, ?_⟩
    refine ⟨keepB2 (keepB1 (H5.ok 0 _ rfl) (H13.ok 0 _ rfl)) (keepB1 (H5.ok 1 _ rfl) (H13.ok 1 _ rfl)), ?_⟩
    refine H13.set (i := 0) rfl (by simp) ?_; intro w14 H14
    refine ⟨_, _, _, _, _, _, H14.cells (i := 0) rfl, ?_⟩
    refine H14.store (i := 2) rfl (by rfl) (by rfl) ?_; clear H14; intro w15 H15
    refine ⟨_, _, _, _, _, _, H15.cells (i := 2) rfl, ?_⟩
    exact fin 4 H15 rfl
theorem ref38_put_ct {l : List At} (hs : SlR (CE encAt) 4 w p l) (hcap : l.length ≤ c) (hl : l.length ≤ 900000) :
    Calls Try.prog N_ref38_put #[(.slice p l.length c), aggAt x] w fun e w' => ∃ p' c', e = .returned (.slice p' (putR l x).length c') ∧ FreshR w w' [.els encAt Ty_api_Attempt 4 p' c' (putR l x)] := by
  apply F_ref38_put_ok
  unfold F_ref38_put
  have H := St.nil w
  refine H.alloc ?_; clear H; intro b w1 H1
  refine ⟨fun k1 w5 => FreshR w w5 [.blk b Ty_api_Attempt (encAt x)] ∧ ∃ k : Nat, k1 = k ∧ k ≤ l.length ∧ putR l x = l.take k ++ x :: l.drop k, ?_, ?_⟩
  · rintro _ k1 w5 ⟨H5, k, rfl, hk, hput⟩
    refine H5.alloc ?_; clear H5; intro b2 w6 H6
    have H6 := H6.litE encAt_ok (i := 1) [] rfl (by decide)
    refine ⟨⟨by omega, by omega⟩, ?_⟩
    rw [Int.toNat_natCast, Nat.sub_zero, Nat.sub_zero]
    have htk : (l.take k).length = k := by rw [List.length_take]; omega
    have hdk : (l.drop k).length = l.length - k := List.length_drop
    have hp1 := slr_take (hs.belowE H6.below) c k
    rw [show Value.slice (slAddr c 0 4 p) k c = .slice (slAddr c 0 4 p) (l.take k).length c by rw [htk]]
    refine H6.appE encAt_ok (i := 1) rfl sl_Ty_S_api_Attempt hp1 (by rw [htk]; simp; omega) (by rw [htk]; simp; omega) ?_; intro q d w7 H7
    rw [List.nil_append] at H7 ⊢
    refine ⟨_, _, _, _, H7.cells (i := 0) rfl, ?_⟩
    refine H7.alloc ?_; clear H7; intro b3 w8 H8
    refine H8.appEB encAt_ok (i := 1) (j := 2) rfl [x] rfl sl_Ty_S_api_Attempt rfl (by rw [htk]; simp; omega) (by rw [htk]; simp; omega) ?_; intro q2 d2 w9 H9
    refine ⟨⟨by omega, by omega⟩, ?_⟩
    have hp2 : SlR (CE encAt) 4 w9 (slAddr c k 4 p) (l.drop k) := (hs.belowE H9.below).tailE hcap
    rw [show Value.slice (slAddr c k 4 p) (l.length - k) (c - k) = .slice (slAddr c k 4 p) (l.drop k).length (c - k) by rw [hdk]]
    have l1 : (l.take k ++ [x]).length = k + 1 := by rw [List.length_append, htk]; rfl
    refine H9.appE encAt_ok (i := 1) rfl sl_Ty_S_api_Attempt hp2 (by rw [l1, hdk]; omega) (by rw [l1, hdk]; omega) ?_; intro q3 d3 w10 H10
    have e : l.take k ++ [x] ++ l.drop k = putR l x := by rw [hput]; simp
    rw [e] at H10 ⊢
    refine ⟨q3, d3, rfl, ?_⟩
    exact H10.sub (fun _ => 1) (fun i r h => by
      cases i with
      | zero => exact h
      | succ i => simp at h) (fun i j hi hj _ => by simp at hi hj; omega)
  · refine ⟨fun k => ((l.length - k).toNat, fun w2 => ∃ k' : Nat, k = k' ∧ k' ≤ l.length ∧ (∀ j (hj : j < l.length), j < k' → bef l[j] x = true) ∧ FreshR w w2 [.blk b Ty_api_Attempt (encAt x)]), ⟨0, rfl, by omega, fun j _ h => by omega, H1⟩, ?_⟩
    clear H1
    rintro _ _ w2 ⟨k, rfl, hk, hI, H2⟩
    refine H2.drew ?_; clear H2; intro w3 H3
    refine ⟨(· < w3.heap.size), ?_⟩
    refine bsplit_dec (fun c1 => ?_) (fun c1 => ?_)
    · have hlt : k < l.length := by omega
      refine ixE (hs.belowE H3.below) k rfl hlt fun b1 s hsk hb => ?_
      obtain rfl : l[k] = s := by rw [List.getElem?_eq_getElem hlt] at hsk; injection hsk
      refine ⟨_, _, _, _, hb, ?_⟩
      refine ⟨_, _, _, _, H3.cells (i := 0) rfl, ?_⟩
      refine (ref38_before_ct l[k] x).mono ?_
      rintro _ w4 ⟨rfl, hb4⟩; have H4 := H3.pass hb4
      refine ⟨_, rfl, ?_⟩
      refine ⟨hb4.keeps, ?_⟩
      refine bsplit_intro (fun c => ?_) (fun c => ?_) --  r
      · refine kW_i64 (by omega) ?_ -- k + (1 : Int)
        exact ⟨⟨k + 1, by omega, by omega, fun j hj h => by
          rcases Nat.lt_or_ge j k with h' | h'
          · exact hI j hj h'
          · obtain rfl : j = k := by omega
            exact c, H4⟩, by dsimp only; omega⟩
      · exact ⟨H4, k, rfl, hk, putR_at hk hI fun _ => c⟩
    · exact ⟨H3, k, rfl, hk, putR_at hk hI fun h => by omega⟩
end
end Go.Proofs.Ytgmniohbnophdaa
