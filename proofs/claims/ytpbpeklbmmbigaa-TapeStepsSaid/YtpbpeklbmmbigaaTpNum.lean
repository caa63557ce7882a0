/- An error as a number: the walk. -/
import Derived.Test.YtpbpeklbmmbigaaTpLaw
namespace Go.Proofs.Ytpbpeklbmmbigaa.Tp
open Go.RowKit Go.Proofs.YtpbpeklbmmbigaaW.PrintWords Go.Proofs.YtpbpeklbmmbigaaW.PrintLast Go.Proofs.YtpbpeklbmmbigaaW.PrintMore
open Go.Proofs.Ytpbpeklbmmbigaa.Flow
set_option linter.unusedVariables false
set_option linter.unusedSimpArgs false

set_option maxHeartbeats 4000000 in
theorem num_none (w : World) :
    Calls Try.prog 22 #[errT none] w fun e w' => e = .returned (.int .i64 0) ∧ Below w.heap.size w w' := by
  refine calls_flow Try.func22 rfl 19 rfl (Nat.le_of_ble_eq_true rfl) [(0, errT none)] ?_ ?_
  · intro t v h; exact args_look rfl t v h
  refine w_seq ?_
  refine w_region ?_
  refine rw_val (v := .int .i64 0) (w' := w) rfl rfl rfl rfl rfl ?_
  refine rw_end ?_
  refine w_seq ?_
  refine w_seq ?_
  refine w_region ?_
  refine rw_val (v := errT none) (w' := w) rfl rfl rfl rfl rfl ?_
  refine rw_val (v := .bool ((none : Option Int).isNone)) (w' := w) rfl rfl rfl rfl (run_as (guard_err_eq0 _ (none : Option Int) _)) ?_
  refine rw_end ?_
  have hq1 : ((none : Option Int).isNone) = true := by rfl
  refine w_cond_t rfl rfl hq1 ?_
  refine w_seq ?_
  refine w_region ?_
  refine rw_val (v := .int .i64 0) (w' := w) rfl rfl rfl rfl rfl ?_
  refine rw_end ?_
  refine w_ret (post_ret1 rfl rfl ?_)
  exact ⟨rfl, (Below.refl _ _)⟩
set_option maxHeartbeats 4000000 in
theorem num_some (c : Int) (hc : (c == 0) = false) (w : World) :
    Calls Try.prog 22 #[errT (some c)] w fun e w' => e = .returned (.int .i64 c) ∧ Below w.heap.size w w' := by
  refine calls_flow Try.func22 rfl 19 rfl (Nat.le_of_ble_eq_true rfl) [(0, errT (some c))] ?_ ?_
  · intro t v h; exact args_look rfl t v h
  refine w_seq ?_
  refine w_region ?_
  refine rw_val (v := .int .i64 0) (w' := w) rfl rfl rfl rfl rfl ?_
  refine rw_end ?_
  refine w_seq ?_
  refine w_seq ?_
  refine w_region ?_
  refine rw_val (v := errT (some c)) (w' := w) rfl rfl rfl rfl rfl ?_
  refine rw_val (v := .bool ((some c).isNone)) (w' := w) rfl rfl rfl rfl (run_as (guard_err_eq0 _ (some c) _)) ?_
  refine rw_end ?_
  have hq1 : ((some c).isNone) = false := by rfl
  refine w_cond_f rfl rfl hq1 ?_
  refine w_skip ?_
  refine w_seq ?_
  refine w_region ?_
  refine rw_val (v := errT (some c)) (w' := w) rfl rfl rfl rfl rfl ?_
  refine rw_val (v := .tuple #[.int .i64 c, .bool true]) (w' := w) rfl rfl rfl rfl (by kernel_rfl) ?_
  refine rw_val (v := .tuple #[.int .i64 c, .bool true]) (w' := w) rfl rfl rfl rfl rfl ?_
  refine rw_val (v := .int .i64 c) (w' := w) rfl rfl rfl rfl (by simp [go_sem, sEv, sLook, nbeq, i64_w]) ?_
  refine rw_val (v := .bool true) (w' := w) rfl rfl rfl rfl (by simp [go_sem, sEv, sLook, nbeq, i64_w]) ?_
  refine rw_val (v := .int .i64 c) (w' := w) rfl rfl rfl rfl rfl ?_
  refine rw_val (v := .bool true) (w' := w) rfl rfl rfl rfl rfl ?_
  refine rw_end ?_
  refine w_weaken (G' := [(2, .int .i64 0), (3, .int .i64 c), (4, .bool true)]) ⟨rfl, rfl, rfl, trivial⟩ ?_
  refine w_seq ?_
  refine w_seq ?_
  refine w_region ?_
  refine rw_val (v := .bool true) (w' := w) rfl rfl rfl rfl rfl ?_
  refine rw_val (v := .bool false) (w' := w) rfl rfl rfl rfl (by simp [go_sem, sEv, sLook, nbeq, i64_w]) ?_
  refine rw_val (v := .bool false) (w' := w) rfl rfl rfl rfl rfl ?_
  refine rw_on (c := false) rfl rfl rfl rfl ?_
  refine rw_val (v := .int .i64 c) (w' := w) rfl rfl rfl rfl rfl ?_
  refine rw_on (c := false) rfl rfl rfl rfl ?_
  refine rw_val (v := .bool (c == 0)) (w' := w) rfl rfl rfl rfl (by simp [go_sem, sEv, sLook, nbeq, i64_w]) ?_
  refine rw_val (v := .bool (c == 0)) (w' := w) rfl rfl rfl rfl (by simp [go_sem, sEv, sLook, nbeq, i64_w]) ?_
  refine rw_end ?_
  refine w_weaken (G' := [(2, .int .i64 0), (3, .int .i64 c), (17, .bool (c == 0))]) ⟨rfl, rfl, rfl, trivial⟩ ?_
  refine w_cond_f rfl rfl hc ?_
  refine w_skip ?_
  refine w_seq ?_
  refine w_region ?_
  refine rw_val (v := .int .i64 c) (w' := w) rfl rfl rfl rfl rfl ?_
  refine rw_val (v := .int .i64 c) (w' := w) rfl rfl rfl rfl rfl ?_
  refine rw_end ?_
  refine w_ret (post_ret1 rfl rfl ?_)
  exact ⟨rfl, (Below.refl _ _)⟩
end Go.Proofs.Ytpbpeklbmmbigaa.Tp
