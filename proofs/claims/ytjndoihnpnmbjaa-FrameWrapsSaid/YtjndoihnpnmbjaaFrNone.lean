/- Where there is no frame: the walks. -/
import Derived.Test.YtjndoihnpnmbjaaFrWhole
namespace Go.Proofs.Ytjndoihnpnmbjaa.PFrameSums
open Go.RowKit Go.Proofs.YtjndoihnpnmbjaaW.PrintWords Go.Proofs.YtjndoihnpnmbjaaW.PrintLast Go.Proofs.YtjndoihnpnmbjaaW.PrintMore
open Go.Proofs.Ytjndoihnpnmbjaa.Flow
set_option linter.unusedVariables false
set_option linter.unusedSimpArgs false


theorem whole_zero (w : World) (A0 : Option Addr) (c0 : Nat) (b : List Int) (hC : (Kd.int .u8).C w A0 b.length b) (hc : b.length ≤ c0) (hb : Bytes b) (hl : b.length ≤ 140737488355328) (h0 : wholeP b = 0) : Calls Try.prog 37 #[.slice A0 b.length c0] w fun e w' => e = .returned (.int .i64 0) ∧ Below w.heap.size w w' := by
  have h := whole_calls w A0 c0 b hC hc hb hl
  rw [h0] at h
  exact h
theorem errW_neq (o : Option Int) (w : World) : (binOp .neq 35 (errW o) .nilIface).run Try.prog w = .ok (.bool o.isSome) w := by
  cases o with
  | none => kernel_rfl
  | some c => kernel_rfl
theorem int_step (d : Nat) (a b : Int) (w : World) : (Op.equalIn (d + 1) 47 (.int .i64 a) (.int .i64 b)).run Try.prog w = .ok (a == b) w := by
  simp [Op.equalIn, run_underlying Try.underlying47]
theorem errW_eql (o : Option Int) (c : Int) (w : World) : (binOp .eql 35 (errW o) (.iface 47 (.int .i64 c))).run Try.prog w = .ok (.bool (decide (o = some c))) w := by
  cases o with
  | none =>
    have h : (binOp .eql 35 .nilIface (.iface 47 (.int .i64 c))).run Try.prog w = .ok (.bool false) w := by kernel_rfl
    have e : decide ((none : Option Int) = some c) = false := by simp
    rw [e]
    exact h
  | some d =>
    have e : decide (some d = some c) = (d == c) := by
      rw [Bool.eq_iff_iff]
      simp
    rw [e]
    have h1 := int_step 9998 d c w
    have h2 : (Op.equalIn Op.maxDepth 35 (errW (some d)) (.iface 47 (.int .i64 c))).run Try.prog w = .ok (d == c) w := h1
    simp only [errW_some] at h2 ⊢
    simp [binOp, Op.equal, h2]
theorem guard_errW_neq (t : Nat) (o : Option Int) (w : World) : (do eqGuard .neq 35 (.tmp t) (.const .nilIface) (errW o) .nilIface; binOp .neq 35 (errW o) .nilIface : Sem Value).run Try.prog w = .ok (.bool o.isSome) w := by
  have h := errW_neq o w
  cases o with
  | none => simpa [eqGuard, errW_none] using h
  | some c => simpa [eqGuard, errW_some] using h
theorem guard_errW_eql (t u : Nat) (o : Option Int) (c : Int) (w : World) : (do eqGuard .eql 35 (.tmp t) (.tmp u) (errW o) (.iface 47 (.int .i64 c)); binOp .eql 35 (errW o) (.iface 47 (.int .i64 c)) : Sem Value).run Try.prog w = .ok (.bool (decide (o = some c))) w := by
  have h := errW_eql o c w
  cases o with
  | none => simpa [eqGuard, errW_none] using h
  | some c => simpa [eqGuard, errW_some] using h
theorem guard_errW_neqs (t u : Nat) (o : Option Int) (c : Int) (w : World) : (do eqGuard .neq 35 (.tmp t) (.tmp u) (errW o) (.iface 47 (.int .i64 c)); binOp .neq 35 (errW o) (.iface 47 (.int .i64 c)) : Sem Value).run Try.prog w = .ok (.bool (!decide (o = some c))) w := by
  have h : (binOp .neq 35 (errW o) (.iface 47 (.int .i64 c))).run Try.prog w = .ok (.bool (!decide (o = some c))) w := by
    cases o with
    | none =>
      have h : (binOp .neq 35 .nilIface (.iface 47 (.int .i64 c))).run Try.prog w = .ok (.bool true) w := by kernel_rfl
      have e : decide ((none : Option Int) = some c) = false := by simp
      rw [e]
      exact h
    | some d =>
      have e : decide (some d = some c) = (d == c) := by
        rw [Bool.eq_iff_iff]
        simp
      rw [e]
      have h1 := int_step 9998 d c w
      have h2 : (Op.equalIn Op.maxDepth 35 (errW (some d)) (.iface 47 (.int .i64 c))).run Try.prog w = .ok (d == c) w := h1
      simp only [errW_some] at h2 ⊢
      simp [binOp, Op.equal, h2]
  cases o with
  | none => simpa [eqGuard, errW_none] using h
  | some c => simpa [eqGuard, errW_some] using h
theorem wrap_one (w : World) (A0 : Option Addr) (c0 : Nat) (l : List Int) (hP : (Kd.slice 5 (Kd.int .u8)).C w A0 [l].length [l]) (hc0 : 1 ≤ c0) (hl : l.length ≤ 16376) :
    Calls Try.prog 19 #[.slice A0 1 c0] w fun e w' => ∃ A' n' c', e = .returned (.tuple #[.slice A' n' c', .nilIface]) ∧ Own .u8 5 w' w.heap.size w.heap.size A' n' c' (frameB l) ∧ Below w.heap.size w w' := by
  have h := wrap_calls w A0 c0 [l] hP hc0 (by simp) (by simp; omega)
  have e1 : ([l] : List (List Int)).flatten = l := by simp
  have e2 : errW (frameE l) = .nilIface := by unfold frameE; rw [if_neg (by omega)]; rfl
  rw [e1, e2] at h
  exact h
set_option maxHeartbeats 4000000 in
theorem split_zero (w : World) (A0 : Option Addr) (c0 : Nat) (b : List Int) (hC : (Kd.int .u8).C w A0 b.length b) (hc : b.length ≤ c0) (hb : Bytes b) (hl : b.length ≤ 140737488355328) (h0 : wholeP b = 0) :
    Calls Try.prog 26 #[.slice A0 b.length c0] w fun e w' => e = .returned (.tuple #[.slice none 0 0, .int .i64 0]) ∧ Below w.heap.size w w' := by
  refine calls_flow Try.func26 rfl 31 rfl (Nat.le_of_ble_eq_true rfl) [(0, .slice A0 b.length c0)] ?_ ?_
  · intro t v h; exact args_look rfl t v h
  refine w_seq ?_
  refine w_region ?_
  refine rw_val (v := .slice none 0 0) (w' := w) rfl rfl rfl rfl rfl ?_
  refine rw_val (v := .int .i64 0) (w' := w) rfl rfl rfl rfl rfl ?_
  refine rw_end ?_
  refine w_seq ?_
  refine w_region ?_
  refine rw_val (v := .slice none 0 0) (w' := w) rfl rfl rfl rfl rfl ?_
  refine rw_end ?_
  refine w_seq ?_
  refine w_region ?_
  refine rw_val (v := .int .i64 0) (w' := w) rfl rfl rfl rfl rfl ?_
  refine rw_end ?_
  refine w_seq ?_
  refine w_seq ?_
  refine w_region ?_
  refine rw_val (v := .slice A0 b.length c0) (w' := w) rfl rfl rfl rfl rfl ?_
  refine rw_call rfl rfl rfl rfl (f := 37) (args := #[.slice A0 b.length c0]) (by simp [go_sem, sEv, sLook, nbeq, i64_w]) (whole_zero w A0 c0 b hC hc hb hl h0) ?_
  rintro e_ w1 ⟨rfl, hb2⟩
  refine ⟨_, rfl, ?_⟩
  have hs_w1 := hb2.size
  refine rw_val (v := .int .i64 0) (w' := w1) rfl rfl rfl rfl rfl ?_
  refine rw_end ?_
  refine w_block ?_
  refine w_loop1 ?_
  refine w_seq ?_
  refine w_seq ?_
  refine w_region ?_
  refine rw_val (v := .int .i64 0) (w' := w1) rfl rfl rfl rfl rfl ?_
  refine rw_val (v := .bool false) (w' := w1) rfl rfl rfl rfl (by simp [go_sem, sEv, sLook, nbeq, i64_w]) ?_
  refine rw_end ?_
  refine w_cond_f rfl rfl rfl ?_
  refine w_exit rfl ?_
  refine w_seq ?_
  refine w_region ?_
  refine rw_val (v := .slice none 0 0) (w' := w1) rfl rfl rfl rfl rfl ?_
  refine rw_val (v := .int .i64 0) (w' := w1) rfl rfl rfl rfl rfl ?_
  refine rw_val (v := .slice none 0 0) (w' := w1) rfl rfl rfl rfl rfl ?_
  refine rw_val (v := .int .i64 0) (w' := w1) rfl rfl rfl rfl rfl ?_
  refine rw_end ?_
  refine w_weaken (G' := [(2, .slice none 0 0), (3, .int .i64 0)]) ⟨rfl, rfl, trivial⟩ ?_
  refine w_ret (post_ret2 rfl rfl rfl ?_)
  exact ⟨rfl, hb2⟩
set_option maxHeartbeats 4000000 in
theorem unwrap_zero (w : World) (A0 : Option Addr) (c0 : Nat) (b : List Int) (hC : (Kd.int .u8).C w A0 b.length b) (hc : b.length ≤ c0) (hb : Bytes b) (hl : b.length ≤ 140737488355328) (h0 : wholeP b = 0) :
    Calls Try.prog 24 #[.slice A0 b.length c0] w fun e w' => e = .returned (.tuple #[.slice none 0 0, .slice none 0 0, errW (some 3)]) ∧ Below w.heap.size w w' := by
  refine calls_flow Try.func24 rfl 19 rfl (Nat.le_of_ble_eq_true rfl) [(0, .slice A0 b.length c0)] ?_ ?_
  · intro t v h; exact args_look rfl t v h
  refine w_seq ?_
  refine w_region ?_
  refine rw_val (v := .slice none 0 0) (w' := w) rfl rfl rfl rfl rfl ?_
  refine rw_val (v := .slice none 0 0) (w' := w) rfl rfl rfl rfl rfl ?_
  refine rw_val (v := .nilIface) (w' := w) rfl rfl rfl rfl rfl ?_
  refine rw_end ?_
  refine w_seq ?_
  refine w_region ?_
  refine rw_val (v := .slice A0 b.length c0) (w' := w) rfl rfl rfl rfl rfl ?_
  refine rw_call rfl rfl rfl rfl (f := 37) (args := #[.slice A0 b.length c0]) (by simp [go_sem, sEv, sLook, nbeq, i64_w]) (whole_zero w A0 c0 b hC hc hb hl h0) ?_
  rintro e_ w1 ⟨rfl, hb2⟩
  refine ⟨_, rfl, ?_⟩
  have hs_w1 := hb2.size
  refine rw_val (v := .int .i64 0) (w' := w1) rfl rfl rfl rfl rfl ?_
  refine rw_end ?_
  refine w_seq ?_
  refine w_seq ?_
  refine w_region ?_
  refine rw_val (v := .int .i64 0) (w' := w1) rfl rfl rfl rfl rfl ?_
  refine rw_val (v := .bool true) (w' := w1) rfl rfl rfl rfl (by simp [go_sem, sEv, sLook, nbeq, i64_w]) ?_
  refine rw_end ?_
  refine w_cond_t rfl rfl rfl ?_
  refine w_seq ?_
  refine w_region ?_
  refine rw_val (v := errW (some 3)) (w' := w1) rfl rfl rfl rfl (by simp [go_sem, sEv, sLook, nbeq, i64_w, errW_some]) ?_
  refine rw_val (v := .slice none 0 0) (w' := w1) rfl rfl rfl rfl rfl ?_
  refine rw_val (v := .slice none 0 0) (w' := w1) rfl rfl rfl rfl rfl ?_
  refine rw_val (v := errW (some 3)) (w' := w1) rfl rfl rfl rfl rfl ?_
  refine rw_end ?_
  refine w_weaken (G' := [(0, .slice A0 b.length c0), (2, .slice none 0 0), (3, .slice none 0 0), (4, errW (some 3)), (5, .int .i64 0)]) ⟨rfl, rfl, rfl, rfl, rfl, trivial⟩ ?_
  refine w_ret (post_ret3 rfl rfl rfl rfl ?_)
  exact ⟨rfl, hb2⟩
end Go.Proofs.Ytjndoihnpnmbjaa.PFrameSums
