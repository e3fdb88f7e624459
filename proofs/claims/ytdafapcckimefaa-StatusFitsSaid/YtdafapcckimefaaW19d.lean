import Derived.Test.YtdafapcckimefaaW19c
import Derived.Recover
namespace Go.Sx
open Go.RowKit
section
variable {P : Program} {ops : Array Oper} {Q : Exit → Act → List Frame → World → Prop} {i : Nat} {rest : List Nat} {a : Act} {cs cs' : List Frame} {w : World} {o : Oper} {v : Value}
theorem wpOpsS_some (ho : ops[i]? = some o) (hg : o.guard = none) (hr : (execOp a.eval o).run P w = .ok .recover w) (hc : recoverD cs = some (v, cs')) (h : wpOpsS P ops Q rest (a.put o.dst v) cs' w) : wpOpsS P ops Q (i :: rest) a cs w := by
  simp only [wpOpsS, ho, Region.wanted, hg, if_true, hr, hc]; exact h
theorem wpOpsS_none (ho : ops[i]? = some o) (hg : o.guard = none) (hr : (execOp a.eval o).run P w = .ok .recover w) (hc : recoverD cs = none) (h : wpOpsS P ops Q rest (a.put o.dst .nilIface) cs w) : wpOpsS P ops Q (i :: rest) a cs w := by
  simp only [wpOpsS, ho, Region.wanted, hg, if_true, hr, hc]; exact h
theorem wpOpsS_val (ho : ops[i]? = some o) (hg : o.guard = none) (hr : (execOp a.eval o).run P w = .ok (.value v) w) (h : wpOpsS P ops Q rest (a.put o.dst v) cs w) : wpOpsS P ops Q (i :: rest) a cs w := by
  simp only [wpOpsS, ho, Region.wanted, hg, if_true, hr]; exact h
theorem wpOpsS_does {k : TypeId → List Kind} (ho : ops[i]? = some o) (hg : o.guard = none) (h : sxOp P ⟨k, none⟩ o (envOf a) w fun v w' => wpOpsS P ops Q rest (a.put o.dst v) cs w') : wpOpsS P ops Q (i :: rest) a cs w := by
  simp only [wpOpsS, ho, Region.wanted, hg, if_true]
  have hd := sxOp_does h
  cases hd with
  | value v w' hr hk => rw [ev_envOf] at hr; rw [hr]; exact hk
  | skip w' hr hk => rw [ev_envOf] at hr; rw [hr]; exact hk
  | enter f args w' hr hk =>
    rw [ev_envOf] at hr; rw [hr]
    refine Calls.mono hk ?_
    rintro _ w2 (⟨v, rfl, hk⟩ | ⟨_, _, hk⟩)
    · exact hk
    · exact hk.elim
  | panic v w' hr hk => exact hk.elim
end
end Go.Sx
namespace Go.Proofs.Ytdafapcckimefaa
open Go.Sx Go.RowKit

def endedV : Value := .iface Ty_status_ended (.agg #[])
def iface_t : TypeId := 20
theorem neq_some (w : World) : (do eqGuard .neq 20 (.tmp 4) (.const .nilIface) (.iface Ty_status_ended (.agg #[])) .nilIface; binOp .neq 20 (.iface Ty_status_ended (.agg #[])) .nilIface : Sem Value).run Try.prog w = .ok (.bool true) w := by rfl
theorem neq_none (w : World) : (do eqGuard .neq 20 (.tmp 4) (.const .nilIface) .nilIface .nilIface; binOp .neq 20 .nilIface .nilIface : Sem Value).run Try.prog w = .ok (.bool false) w := by rfl

theorem body1 : Try.f32.body = some (.seq (.region 0 #[{ dst := some 3, op := .call { callee := .builtin .recover, args := #[], argTypes := #[] }, type := 20, pos := "status.go:94", after := #[], guard := none },
      { dst := some 2, op := .assign (.tmp 3), type := 20, pos := "status.go:94", after := #[{ on := 0, ground := .data }, { on := 0, ground := .chain }, { on := 0, ground := .phase }], guard := none }] false)
    (.seq (.region 1 #[{ dst := some 4, op := .move (.tmp 2), type := 20, pos := "status.go:94", after := #[], guard := none },
      { dst := some 5, op := .binOp .neq 20 (.tmp 4) (.const .nilIface) 20, type := 4, pos := "status.go:94", after := #[{ on := 0, ground := .data }], guard := none }] false)
     (.cond (.tmp 5) (.region 2 #[{ dst := some 6, op := .build 24 #[], type := 24, pos := "status.go:95", after := #[], guard := none },
        { dst := none, op := .store 24 (.tmp 0) (.tmp 6), type := 0, pos := "status.go:95", after := #[{ on := 0, ground := .data }, { on := 0, ground := .phase }], guard := none },
        { dst := none, op := .store 28 (.tmp 1) (.const (.int .i64 5)), type := 0, pos := "status.go:95", after := #[{ on := 1, ground := .chain }, { on := 0, ground := .phase }, { on := 1, ground := .phase }], guard := none }] false) .skip))) := by rfl

theorem decode1_ret {b b1 : Nat} {w : World} {Post : World → Prop} (h : Post w) :
    CallsD Try.prog N_status_Decode_1 #[(.pointer (some ⟨b, 0, none⟩)), (.pointer (some ⟨b1, 0, none⟩))] .returning w fun x u w' => (∃ v, x = .returned v) ∧ settle u = .returning ∧ Post w' := by
  refine callsD_of_wpS (fn := Try.f32) Try.func32 body1 fun c₀ cs hu => ?_
  refine wpS_seq (wpS_region ?_)
  have e0 : recoverD (c₀ :: cs) = none := by simp [recoverD, hu]
  refine wpOpsS_none rfl rfl (by rfl) e0 ?_
  refine wpOpsS_val (v := .nilIface) rfl rfl (by rfl) ?_
  show (Code.seq (.region 1 _ false) _).wpS Try.prog _ (⟨#[.pointer (some ⟨b, 0, none⟩), .pointer (some ⟨b1, 0, none⟩), .nilIface, .nilIface, undef, undef, undef], []⟩ : Act) (c₀ :: cs) w
  refine wpS_seq (wpS_region ?_)
  refine wpOpsS_val (v := .nilIface) rfl rfl (by rfl) ?_
  refine wpOpsS_val (v := .bool false) rfl rfl (by
    show (do let v ← (do eqGuard .neq 20 (.tmp 4) (.const .nilIface) .nilIface .nilIface; binOp .neq 20 .nilIface .nilIface : Sem Value); pure (Next.value v) : Sem Next).run _ _ = _
    rw [bind_ok (neq_none w)]; rfl) ?_
  refine wpS_cond (t := false) (by rfl) ?_
  obtain ⟨v, hr, -⟩ := results_run (P := Try.prog) (k := TTk) (fn := Try.f32) (a := ⟨#[.pointer (some ⟨b, 0, none⟩), .pointer (some ⟨b1, 0, none⟩), .nilIface, .nilIface, .nilIface, .bool false, undef], []⟩) (w := w) (F := fun _ => True) trivial
  refine wpS_of_wp (wp_skip ⟨rfl, .returning, ?_, v, hr, ⟨_, rfl⟩, rfl, h⟩)
  rw [← hu]
def actS (b b1 : Nat) : Act := ⟨#[.pointer (some ⟨b, 0, none⟩), .pointer (some ⟨b1, 0, none⟩), endedV, endedV, endedV, .bool true, .agg #[.int .i64 0, .slice none 0 0]], []⟩
theorem store1 {b b1 : Nat} {w : World} (K : Value → World → Prop) : sxOp Try.prog ⟨TTk, none⟩ { dst := none, op := .store 24 (.tmp 0) (.tmp 6), type := 0, pos := "status.go:95", after := #[{ on := 0, ground := .data }, { on := 0, ground := .phase }], guard := none } (envOf (actS b b1)) w K
    = sxStore w ⟨b, 0, none⟩ 0 [.int .i64 0, .slice none 0 0] fun w' => K undef w' := by kernel_rfl
theorem store2 {b b1 : Nat} {w : World} (K : Value → World → Prop) : sxOp Try.prog ⟨TTk, none⟩ { dst := none, op := .store 28 (.tmp 1) (.const (.int .i64 5)), type := 0, pos := "status.go:95", after := #[{ on := 1, ground := .chain }, { on := 0, ground := .phase }, { on := 1, ground := .phase }], guard := none } (envOf (actS b b1)) w K
    = sxStore w ⟨b1, 0, none⟩ 0 [.int .i64 5] fun w' => K undef w' := by kernel_rfl
theorem decode1_pan {b b1 : Nat} {w : World} {Post : World → Prop} (h : sxStore w ⟨b, 0, none⟩ 0 [.int .i64 0, .slice none 0 0] fun w1 => kSet w1 ⟨b1, 0, none⟩ (.int .i64 5) Post) :
    CallsD Try.prog N_status_Decode_1 #[(.pointer (some ⟨b, 0, none⟩)), (.pointer (some ⟨b1, 0, none⟩))] (.panicking [{ v := endedV, recovered := false }]) w fun x u w' => (∃ v, x = .returned v) ∧ settle u = .returning ∧ Post w' := by
  refine callsD_of_wpS (fn := Try.f32) Try.func32 body1 fun c₀ cs hu => ?_
  refine wpS_seq (wpS_region ?_)
  have e0 : recoverD (c₀ :: cs) = some (endedV, { c₀ with mode := .panicking [{ v := endedV, recovered := true }] } :: cs) := by simp [recoverD, hu]
  refine wpOpsS_some rfl rfl (by rfl) e0 ?_
  refine wpOpsS_val (v := endedV) rfl rfl (by rfl) ?_
  show (Code.seq (.region 1 _ false) _).wpS Try.prog _ (⟨#[.pointer (some ⟨b, 0, none⟩), .pointer (some ⟨b1, 0, none⟩), endedV, endedV, undef, undef, undef], []⟩ : Act) ({ c₀ with mode := .panicking [{ v := endedV, recovered := true }] } :: cs) w
  refine wpS_seq (wpS_region ?_)
  refine wpOpsS_val (v := endedV) rfl rfl (by rfl) ?_
  refine wpOpsS_val (v := .bool true) rfl rfl (by
    show (do let v ← (do eqGuard .neq 20 (.tmp 4) (.const .nilIface) (.iface Ty_status_ended (.agg #[])) .nilIface; binOp .neq 20 (.iface Ty_status_ended (.agg #[])) .nilIface : Sem Value); pure (Next.value v) : Sem Next).run _ _ = _
    rw [bind_ok (neq_some w)]; rfl) ?_
  refine wpS_cond (t := true) (by rfl) ?_
  refine wpS_region ?_
  refine wpOpsS_val (v := .agg #[.int .i64 0, .slice none 0 0]) rfl rfl (by kernel_rfl) ?_
  show wpOpsS Try.prog _ _ [1, 2] (actS b b1) _ w
  refine wpOpsS_does (k := TTk) rfl rfl (Eq.mpr (store1 _) ?_)
  obtain ⟨w1, w2, k1, k2, hP⟩ : ∃ w1 w2, (∀ K : World → Prop, K w1 → sxStore w ⟨b, 0, none⟩ 0 [.int .i64 0, .slice none 0 0] K) ∧ (∀ K : World → Prop, K w2 → kSet w1 ⟨b1, 0, none⟩ (.int .i64 5) K) ∧ Post w2 := by
    simp only [sxStore, bcond_iff] at h
    obtain ⟨h1, h2, h3, h4, h5, h6, h7, h8, h9⟩ := h
    exact ⟨_, _, fun K hK => by simp only [sxStore, bcond_iff]; exact ⟨h1, h2, h3, h4, h5, h6, hK⟩, fun K hK => ⟨h7, h8, hK⟩, h9⟩
  refine k1 _ ?_
  show wpOpsS Try.prog _ _ [2] (actS b b1) _ w1
  refine wpOpsS_does (k := TTk) rfl rfl (Eq.mpr (store2 _) ?_)
  obtain ⟨q1, q2, q3⟩ := k2 (fun w3 => w3 = w2) rfl
  refine ⟨q1, q2, ?_⟩
  have q3 : w1.setCell ⟨b1, 0, none⟩ (.int .i64 5) = w2 := q3
  subst q3
  obtain ⟨v, hr, -⟩ := results_run (P := Try.prog) (k := TTk) (fn := Try.f32) (a := actS b b1) (w := w1.setCell ⟨b1, 0, none⟩ (.int .i64 5)) (F := fun _ => True) trivial
  exact ⟨rfl, .panicking [{ v := endedV, recovered := true }], rfl, v, hr, ⟨_, rfl⟩, rfl, hP⟩
end Go.Proofs.Ytdafapcckimefaa
