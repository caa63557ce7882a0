/- What a nil tape answers: the walks. -/
import Derived.Test.YtpbpeklbmmbigaaTpAlive
namespace Go.Proofs.Ytpbpeklbmmbigaa.Tp
open Go.RowKit Go.Proofs.YtpbpeklbmmbigaaW.PrintWords Go.Proofs.YtpbpeklbmmbigaaW.PrintLast Go.Proofs.YtpbpeklbmmbigaaW.PrintMore
open Go.Proofs.Ytpbpeklbmmbigaa.Flow
set_option linter.unusedVariables false
set_option linter.unusedSimpArgs false

set_option maxHeartbeats 4000000 in
theorem step_nil  (w : World) :
    Calls Try.prog 29 #[.pointer none] w fun e w' => e = .returned (errT (some 5)) ∧ Below w.heap.size w w' := by
  refine calls_flow Try.func29 rfl 39 rfl (Nat.le_of_ble_eq_true rfl) [(0, .pointer none)] ?_ ?_
  · intro t v h; exact args_look rfl t v h
  refine w_seq ?_
  refine w_region ?_
  refine rw_val (v := .nilIface) (w' := w) rfl rfl rfl rfl rfl ?_
  refine rw_end ?_
  refine w_seq ?_
  refine w_seq ?_
  refine w_region ?_
  refine rw_val (v := .pointer none) (w' := w) rfl rfl rfl rfl rfl ?_
  refine rw_val (v := .bool true) (w' := w) rfl rfl rfl rfl (run_as (run_ptr_eql (e := 60) (by kernel_rfl) _ _)) ?_
  refine rw_val (v := .bool true) (w' := w) rfl rfl rfl rfl rfl ?_
  refine rw_off (c := true) rfl rfl rfl rfl rfl rfl ?_
  refine rw_off (c := true) rfl rfl rfl rfl rfl rfl ?_
  refine rw_off (c := true) rfl rfl rfl rfl rfl rfl ?_
  refine rw_off (c := true) rfl rfl rfl rfl rfl rfl ?_
  refine rw_val (v := .bool true) (w' := w) rfl rfl rfl rfl (by simp [go_sem, sEv, sLook, nbeq, i64_w]) ?_
  refine rw_val (v := .bool true) (w' := w) rfl rfl rfl rfl rfl ?_
  refine rw_off (c := true) rfl rfl rfl rfl rfl rfl ?_
  refine rw_off (c := true) rfl rfl rfl rfl rfl rfl ?_
  refine rw_off (c := true) rfl rfl rfl rfl rfl rfl ?_
  refine rw_off (c := true) rfl rfl rfl rfl rfl rfl ?_
  refine rw_val (v := .bool true) (w' := w) rfl rfl rfl rfl (by simp [go_sem, sEv, sLook, nbeq, i64_w]) ?_
  refine rw_end ?_
  refine w_weaken (G' := [(0, .pointer none), (2, .nilIface), (16, .bool true)]) ⟨rfl, rfl, rfl, trivial⟩ ?_
  refine w_cond_t rfl rfl rfl ?_
  refine w_seq ?_
  refine w_seq ?_
  refine w_region ?_
  refine rw_val (v := .pointer none) (w' := w) rfl rfl rfl rfl rfl ?_
  refine rw_val (v := .bool false) (w' := w) rfl rfl rfl rfl (run_as (run_ptr_neq (e := 60) (by kernel_rfl) _ _)) ?_
  refine rw_end ?_
  refine w_cond_f rfl rfl rfl ?_
  refine w_skip ?_
  refine w_seq ?_
  refine w_region ?_
  refine rw_val (v := errT (some 5)) (w' := w) rfl rfl rfl rfl (by simp [go_sem, sEv, sLook, nbeq, i64_w, errT]) ?_
  refine rw_val (v := errT (some 5)) (w' := w) rfl rfl rfl rfl rfl ?_
  refine rw_end ?_
  refine w_ret (post_ret1 rfl rfl ?_)
  exact ⟨rfl, (Below.refl _ _)⟩
set_option maxHeartbeats 4000000 in
theorem length_nil  (w : World) :
    Calls Try.prog 28 #[.pointer none] w fun e w' => e = .returned (.int .i64 0) ∧ Below w.heap.size w w' := by
  refine calls_flow Try.func28 rfl 10 rfl (Nat.le_of_ble_eq_true rfl) [(0, .pointer none)] ?_ ?_
  · intro t v h; exact args_look rfl t v h
  refine w_seq ?_
  refine w_region ?_
  refine rw_val (v := .int .i64 0) (w' := w) rfl rfl rfl rfl rfl ?_
  refine rw_end ?_
  refine w_seq ?_
  refine w_seq ?_
  refine w_region ?_
  refine rw_val (v := .pointer none) (w' := w) rfl rfl rfl rfl rfl ?_
  refine rw_val (v := .bool true) (w' := w) rfl rfl rfl rfl (run_as (run_ptr_eql (e := 60) (by kernel_rfl) _ _)) ?_
  refine rw_end ?_
  refine w_cond_t rfl rfl rfl ?_
  refine w_seq ?_
  refine w_region ?_
  refine rw_val (v := .int .i64 0) (w' := w) rfl rfl rfl rfl rfl ?_
  refine rw_end ?_
  refine w_ret (post_ret1 rfl rfl ?_)
  exact ⟨rfl, (Below.refl _ _)⟩
set_option maxHeartbeats 4000000 in
theorem down_nil  (w : World) :
    Calls Try.prog 23 #[.pointer none] w fun e w' => e = .returned (.bool true) ∧ Below w.heap.size w w' := by
  refine calls_flow Try.func23 rfl 11 rfl (Nat.le_of_ble_eq_true rfl) [(0, .pointer none)] ?_ ?_
  · intro t v h; exact args_look rfl t v h
  refine w_seq ?_
  refine w_region ?_
  refine rw_val (v := .bool false) (w' := w) rfl rfl rfl rfl rfl ?_
  refine rw_end ?_
  refine w_seq ?_
  refine w_region ?_
  refine rw_val (v := .pointer none) (w' := w) rfl rfl rfl rfl rfl ?_
  refine rw_val (v := .bool true) (w' := w) rfl rfl rfl rfl (run_as (run_ptr_eql (e := 60) (by kernel_rfl) _ _)) ?_
  refine rw_val (v := .bool true) (w' := w) rfl rfl rfl rfl rfl ?_
  refine rw_off (c := true) rfl rfl rfl rfl rfl rfl ?_
  refine rw_off (c := true) rfl rfl rfl rfl rfl rfl ?_
  refine rw_off (c := true) rfl rfl rfl rfl rfl rfl ?_
  refine rw_off (c := true) rfl rfl rfl rfl rfl rfl ?_
  refine rw_val (v := .bool true) (w' := w) rfl rfl rfl rfl (by simp [go_sem, sEv, sLook, nbeq, i64_w]) ?_
  refine rw_val (v := .bool true) (w' := w) rfl rfl rfl rfl rfl ?_
  refine rw_end ?_
  refine w_weaken (G' := [(2, .bool true)]) ⟨rfl, trivial⟩ ?_
  refine w_ret (post_ret1 rfl rfl ?_)
  exact ⟨rfl, (Below.refl _ _)⟩
set_option maxHeartbeats 4000000 in
theorem sure_nil  (w : World) :
    Calls Try.prog 16 #[.pointer none] w fun e w' => e = .returned (.int .i64 0) ∧ Below w.heap.size w w' := by
  refine calls_flow Try.func16 rfl 9 rfl (Nat.le_of_ble_eq_true rfl) [(0, .pointer none)] ?_ ?_
  · intro t v h; exact args_look rfl t v h
  refine w_seq ?_
  refine w_region ?_
  refine rw_val (v := .int .i64 0) (w' := w) rfl rfl rfl rfl rfl ?_
  refine rw_end ?_
  refine w_seq ?_
  refine w_seq ?_
  refine w_region ?_
  refine rw_val (v := .pointer none) (w' := w) rfl rfl rfl rfl rfl ?_
  refine rw_val (v := .bool true) (w' := w) rfl rfl rfl rfl (run_as (run_ptr_eql (e := 60) (by kernel_rfl) _ _)) ?_
  refine rw_end ?_
  refine w_cond_t rfl rfl rfl ?_
  refine w_seq ?_
  refine w_region ?_
  refine rw_val (v := .int .i64 0) (w' := w) rfl rfl rfl rfl rfl ?_
  refine rw_end ?_
  refine w_ret (post_ret1 rfl rfl ?_)
  exact ⟨rfl, (Below.refl _ _)⟩
set_option maxHeartbeats 4000000 in
theorem steps_nil  (w : World) :
    Calls Try.prog 19 #[.pointer none] w fun e w' => e = .returned (.int .i64 0) ∧ Below w.heap.size w w' := by
  refine calls_flow Try.func19 rfl 9 rfl (Nat.le_of_ble_eq_true rfl) [(0, .pointer none)] ?_ ?_
  · intro t v h; exact args_look rfl t v h
  refine w_seq ?_
  refine w_region ?_
  refine rw_val (v := .int .i64 0) (w' := w) rfl rfl rfl rfl rfl ?_
  refine rw_end ?_
  refine w_seq ?_
  refine w_seq ?_
  refine w_region ?_
  refine rw_val (v := .pointer none) (w' := w) rfl rfl rfl rfl rfl ?_
  refine rw_val (v := .bool true) (w' := w) rfl rfl rfl rfl (run_as (run_ptr_eql (e := 60) (by kernel_rfl) _ _)) ?_
  refine rw_end ?_
  refine w_cond_t rfl rfl rfl ?_
  refine w_seq ?_
  refine w_region ?_
  refine rw_val (v := .int .i64 0) (w' := w) rfl rfl rfl rfl rfl ?_
  refine rw_end ?_
  refine w_ret (post_ret1 rfl rfl ?_)
  exact ⟨rfl, (Below.refl _ _)⟩
set_option maxHeartbeats 4000000 in
theorem read_nil  (w : World) :
    Calls Try.prog 15 #[.pointer none] w fun e w' => e = .returned (.slice none 0 0) ∧ Below w.heap.size w w' := by
  refine calls_flow Try.func15 rfl 10 rfl (Nat.le_of_ble_eq_true rfl) [(0, .pointer none)] ?_ ?_
  · intro t v h; exact args_look rfl t v h
  refine w_seq ?_
  refine w_region ?_
  refine rw_val (v := .slice none 0 0) (w' := w) rfl rfl rfl rfl rfl ?_
  refine rw_end ?_
  refine w_seq ?_
  refine w_seq ?_
  refine w_region ?_
  refine rw_val (v := .pointer none) (w' := w) rfl rfl rfl rfl rfl ?_
  refine rw_val (v := .bool true) (w' := w) rfl rfl rfl rfl (run_as (run_ptr_eql (e := 60) (by kernel_rfl) _ _)) ?_
  refine rw_end ?_
  refine w_cond_t rfl rfl rfl ?_
  refine w_seq ?_
  refine w_region ?_
  refine rw_val (v := .slice none 0 0) (w' := w) rfl rfl rfl rfl rfl ?_
  refine rw_end ?_
  refine w_ret (post_ret1 rfl rfl ?_)
  exact ⟨rfl, (Below.refl _ _)⟩
set_option maxHeartbeats 4000000 in
theorem arm_nil (k : Int) (w : World) :
    Calls Try.prog 20 #[.pointer none, .int .i64 k] w fun e w' => e = .returned (errT (some 1)) ∧ Below w.heap.size w w' := by
  refine calls_flow Try.func20 rfl 17 rfl (Nat.le_of_ble_eq_true rfl) [(0, .pointer none), (1, .int .i64 k)] ?_ ?_
  · intro t v h; exact args_look rfl t v h
  refine w_seq ?_
  refine w_region ?_
  refine rw_val (v := .nilIface) (w' := w) rfl rfl rfl rfl rfl ?_
  refine rw_end ?_
  refine w_seq ?_
  refine w_seq ?_
  refine w_region ?_
  refine rw_val (v := .pointer none) (w' := w) rfl rfl rfl rfl rfl ?_
  refine rw_val (v := .bool true) (w' := w) rfl rfl rfl rfl (run_as (run_ptr_eql (e := 60) (by kernel_rfl) _ _)) ?_
  refine rw_val (v := .bool true) (w' := w) rfl rfl rfl rfl rfl ?_
  refine rw_off (c := true) rfl rfl rfl rfl rfl rfl ?_
  refine rw_off (c := true) rfl rfl rfl rfl rfl rfl ?_
  refine rw_val (v := .bool true) (w' := w) rfl rfl rfl rfl (by simp [go_sem, sEv, sLook, nbeq, i64_w]) ?_
  refine rw_end ?_
  refine w_weaken (G' := [(0, .pointer none), (1, .int .i64 k), (4, .nilIface), (10, .bool true)]) ⟨rfl, rfl, rfl, rfl, trivial⟩ ?_
  refine w_cond_t rfl rfl rfl ?_
  refine w_seq ?_
  refine w_region ?_
  refine rw_val (v := errT (some 1)) (w' := w) rfl rfl rfl rfl (by simp [go_sem, sEv, sLook, nbeq, i64_w, errT]) ?_
  refine rw_val (v := errT (some 1)) (w' := w) rfl rfl rfl rfl rfl ?_
  refine rw_end ?_
  refine w_ret (post_ret1 rfl rfl ?_)
  exact ⟨rfl, (Below.refl _ _)⟩
set_option maxHeartbeats 4000000 in
theorem fail_nil (k : Int) (w : World) :
    Calls Try.prog 21 #[.pointer none, .int .i64 k] w fun e w' => e = .returned (errT (some 1)) ∧ Below w.heap.size w w' := by
  refine calls_flow Try.func21 rfl 17 rfl (Nat.le_of_ble_eq_true rfl) [(0, .pointer none), (1, .int .i64 k)] ?_ ?_
  · intro t v h; exact args_look rfl t v h
  refine w_seq ?_
  refine w_region ?_
  refine rw_val (v := .nilIface) (w' := w) rfl rfl rfl rfl rfl ?_
  refine rw_end ?_
  refine w_seq ?_
  refine w_seq ?_
  refine w_region ?_
  refine rw_val (v := .pointer none) (w' := w) rfl rfl rfl rfl rfl ?_
  refine rw_val (v := .bool true) (w' := w) rfl rfl rfl rfl (run_as (run_ptr_eql (e := 60) (by kernel_rfl) _ _)) ?_
  refine rw_val (v := .bool true) (w' := w) rfl rfl rfl rfl rfl ?_
  refine rw_off (c := true) rfl rfl rfl rfl rfl rfl ?_
  refine rw_off (c := true) rfl rfl rfl rfl rfl rfl ?_
  refine rw_val (v := .bool true) (w' := w) rfl rfl rfl rfl (by simp [go_sem, sEv, sLook, nbeq, i64_w]) ?_
  refine rw_end ?_
  refine w_weaken (G' := [(0, .pointer none), (1, .int .i64 k), (4, .nilIface), (10, .bool true)]) ⟨rfl, rfl, rfl, rfl, trivial⟩ ?_
  refine w_cond_t rfl rfl rfl ?_
  refine w_seq ?_
  refine w_region ?_
  refine rw_val (v := errT (some 1)) (w' := w) rfl rfl rfl rfl (by simp [go_sem, sEv, sLook, nbeq, i64_w, errT]) ?_
  refine rw_val (v := errT (some 1)) (w' := w) rfl rfl rfl rfl rfl ?_
  refine rw_end ?_
  refine w_ret (post_ret1 rfl rfl ?_)
  exact ⟨rfl, (Below.refl _ _)⟩
set_option maxHeartbeats 4000000 in
theorem cut_nil  (w : World) :
    Calls Try.prog 17 #[.pointer none] w fun e w' => e = .returned (.tuple #[]) ∧ Below w.heap.size w w' := by
  refine calls_flow Try.func17 rfl 21 rfl (Nat.le_of_ble_eq_true rfl) [(0, .pointer none)] ?_ ?_
  · intro t v h; exact args_look rfl t v h
  refine w_seq ?_
  refine w_region ?_
  refine rw_val (v := .pointer none) (w' := w) rfl rfl rfl rfl rfl ?_
  refine rw_call rfl rfl rfl rfl (f := 23) (args := #[.pointer none]) (by simp [go_sem, sEv, sLook, nbeq, i64_w]) (down_nil w) ?_
  rintro e_ w1 ⟨rfl, hb2⟩
  refine ⟨_, rfl, ?_⟩
  have hs_w1 := hb2.size
  refine rw_val (v := .bool false) (w' := w1) rfl rfl rfl rfl (by simp [go_sem, sEv, sLook, nbeq, i64_w]) ?_
  refine rw_end ?_
  refine w_cond_f rfl rfl rfl ?_
  refine w_skip ?_
  refine w_end (post_end0 rfl ?_)
  exact ⟨rfl, hb2⟩
set_option maxHeartbeats 4000000 in
theorem crash_nil (k : Int) (w : World) :
    Calls Try.prog 14 #[.pointer none, .int .i64 k] w fun e w' => e = .returned (.tuple #[]) ∧ Below w.heap.size w w' := by
  refine calls_flow Try.func14 rfl 51 rfl (Nat.le_of_ble_eq_true rfl) [(0, .pointer none), (1, .int .i64 k)] ?_ ?_
  · intro t v h; exact args_look rfl t v h
  refine w_seq ?_
  refine w_seq ?_
  refine w_region ?_
  refine rw_val (v := .pointer none) (w' := w) rfl rfl rfl rfl rfl ?_
  refine rw_val (v := .bool true) (w' := w) rfl rfl rfl rfl (run_as (run_ptr_eql (e := 60) (by kernel_rfl) _ _)) ?_
  refine rw_end ?_
  refine w_cond_t rfl rfl rfl ?_
  refine w_ret (post_ret0 rfl ?_)
  exact ⟨rfl, (Below.refl _ _)⟩
set_option maxHeartbeats 4000000 in
theorem sync_nil  (w : World) :
    Calls Try.prog 13 #[.pointer none] w fun e w' => e = .returned (errT (some 5)) ∧ Below w.heap.size w w' := by
  refine calls_flow Try.func13 rfl 17 rfl (Nat.le_of_ble_eq_true rfl) [(0, .pointer none)] ?_ ?_
  · intro t v h; exact args_look rfl t v h
  refine w_seq ?_
  refine w_region ?_
  refine rw_val (v := .nilIface) (w' := w) rfl rfl rfl rfl rfl ?_
  refine rw_end ?_
  refine w_seq ?_
  refine w_seq ?_
  refine w_region ?_
  refine rw_val (v := .pointer none) (w' := w) rfl rfl rfl rfl rfl ?_
  refine rw_call rfl rfl rfl rfl (f := 29) (args := #[.pointer none]) (by simp [go_sem, sEv, sLook, nbeq, i64_w]) (step_nil w) ?_
  rintro e_ w1 ⟨rfl, hb2⟩
  refine ⟨_, rfl, ?_⟩
  have hs_w1 := hb2.size
  refine rw_val (v := errT (some 5)) (w' := w1) rfl rfl rfl rfl rfl ?_
  refine rw_end ?_
  refine w_seq ?_
  refine w_region ?_
  refine rw_val (v := errT (some 5)) (w' := w1) rfl rfl rfl rfl rfl ?_
  refine rw_val (v := .bool ((some 5).isSome)) (w' := w1) rfl rfl rfl rfl (run_as (guard_err_neq _ (some 5) _)) ?_
  refine rw_end ?_
  refine w_cond_t rfl rfl rfl ?_
  refine w_seq ?_
  refine w_region ?_
  refine rw_val (v := errT (some 5)) (w' := w1) rfl rfl rfl rfl rfl ?_
  refine rw_val (v := errT (some 5)) (w' := w1) rfl rfl rfl rfl rfl ?_
  refine rw_end ?_
  refine w_ret (post_ret1 rfl rfl ?_)
  exact ⟨rfl, hb2⟩
set_option maxHeartbeats 4000000 in
theorem replace_nil (B : Option Addr) (n c : Nat) (cB : decide (1048576 < (n : Int)) = false) (w : World) :
    Calls Try.prog 18 #[.pointer none, .slice B n c] w fun e w' => e = .returned (errT (some 5)) ∧ Below w.heap.size w w' := by
  refine calls_flow Try.func18 rfl 25 rfl (Nat.le_of_ble_eq_true rfl) [(0, .pointer none), (1, .slice B n c)] ?_ ?_
  · intro t v h; exact args_look rfl t v h
  refine w_seq ?_
  refine w_region ?_
  refine rw_val (v := .nilIface) (w' := w) rfl rfl rfl rfl rfl ?_
  refine rw_end ?_
  refine w_seq ?_
  refine w_seq ?_
  refine w_region ?_
  refine rw_val (v := .slice B n c) (w' := w) rfl rfl rfl rfl rfl ?_
  refine rw_val (v := .int .i64 (n : Int)) (w' := w) rfl rfl rfl rfl (by simp [go_sem, sEv, sLook, nbeq, i64_w]) ?_
  refine rw_val (v := .bool (decide (1048576 < (n : Int)))) (w' := w) rfl rfl rfl rfl (by simp [go_sem, sEv, sLook, nbeq, i64_w]) ?_
  refine rw_end ?_
  refine w_cond_f rfl rfl cB ?_
  refine w_skip ?_
  refine w_seq ?_
  refine w_seq ?_
  refine w_region ?_
  refine rw_val (v := .pointer none) (w' := w) rfl rfl rfl rfl rfl ?_
  refine rw_call rfl rfl rfl rfl (f := 29) (args := #[.pointer none]) (by simp [go_sem, sEv, sLook, nbeq, i64_w]) (step_nil w) ?_
  rintro e_ w1 ⟨rfl, hb2⟩
  refine ⟨_, rfl, ?_⟩
  have hs_w1 := hb2.size
  refine rw_val (v := errT (some 5)) (w' := w1) rfl rfl rfl rfl rfl ?_
  refine rw_end ?_
  refine w_seq ?_
  refine w_region ?_
  refine rw_val (v := errT (some 5)) (w' := w1) rfl rfl rfl rfl rfl ?_
  refine rw_val (v := .bool ((some 5).isSome)) (w' := w1) rfl rfl rfl rfl (run_as (guard_err_neq _ (some 5) _)) ?_
  refine rw_end ?_
  refine w_cond_t rfl rfl rfl ?_
  refine w_seq ?_
  refine w_region ?_
  refine rw_val (v := errT (some 5)) (w' := w1) rfl rfl rfl rfl rfl ?_
  refine rw_val (v := errT (some 5)) (w' := w1) rfl rfl rfl rfl rfl ?_
  refine rw_end ?_
  refine w_ret (post_ret1 rfl rfl ?_)
  exact ⟨rfl, hb2⟩
set_option maxHeartbeats 4000000 in
theorem append_nil (w : World) (P0 : Option Addr) (ps : List (List Int)) (pc : Nat) (hP : (Kd.slice 5 (Kd.int .u8)).C w P0 ps.length ps) (hn : ps.length ≤ 1000000) (hall : ps.flatten.length ≤ 1048576) :
    Calls Try.prog 12 #[.pointer none, .slice P0 ps.length pc] w fun e w' => e = .returned (errT (some 5)) ∧ Below w.heap.size w w' := by
  refine calls_flow Try.func12 rfl 48 rfl (Nat.le_of_ble_eq_true rfl) [(0, .pointer none), (1, .slice P0 ps.length pc)] ?_ ?_
  · intro t v h; exact args_look rfl t v h
  refine w_seq ?_
  refine w_region ?_
  refine rw_val (v := .nilIface) (w' := w) rfl rfl rfl rfl rfl ?_
  refine rw_end ?_
  refine w_seq ?_
  refine w_region ?_
  refine rw_val (v := .pointer none) (w' := w) rfl rfl rfl rfl rfl ?_
  refine rw_call rfl rfl rfl rfl (f := 28) (args := #[.pointer none]) (by simp [go_sem, sEv, sLook, nbeq, i64_w, -List.length_flatten]) (length_nil w) ?_
  rintro e_ w1 ⟨rfl, hb2⟩
  refine ⟨_, rfl, ?_⟩
  have hs_w1 := hb2.size
  refine rw_val (v := .int .i64 0) (w' := w1) rfl rfl rfl rfl rfl ?_
  refine rw_end ?_
  refine w_seq ?_
  refine w_seq ?_
  refine w_region ?_
  refine rw_val (v := .slice P0 ps.length pc) (w' := w1) rfl rfl rfl rfl rfl ?_
  refine rw_val (v := .int .i64 (ps.length : Int)) (w' := w1) rfl rfl rfl rfl (by simp [go_sem, sEv, sLook, nbeq, i64_w, -List.length_flatten]) ?_
  refine rw_val (v := .int .i64 0) (w' := w1) rfl rfl rfl rfl rfl ?_
  refine rw_end ?_
  refine w_block ?_
  refine w_loop (fun m_ G W_ => ∃ i : Nat, i + m_ = ps.length ∧ w1 = W_ ∧ G = [(0, .pointer none), (1, .slice P0 ps.length pc), (4, .nilIface), (5, .int .i64 ((ps.take i).flatten.length : Int)), (13, .slice P0 ps.length pc), (14, .int .i64 (ps.length : Int)), (15, .int .i64 (i : Int))]) ps.length [(0, .pointer none), (1, .slice P0 ps.length pc), (4, .nilIface), (5, .int .i64 0), (13, .slice P0 ps.length pc), (14, .int .i64 (ps.length : Int)), (15, .int .i64 0)] ⟨0, by omega, rfl, by simp⟩ ⟨rfl, rfl, rfl, rfl, rfl, rfl, rfl, trivial⟩ ?_
  rintro m_ G w_ ⟨i, him, rfl, rfl⟩
  refine w_seq ?_
  refine w_region ?_
  refine rw_val (v := .bool (decide ((i : Int) < (ps.length : Int)))) (w' := w1) rfl rfl rfl rfl (by simp [go_sem, sEv, sLook, nbeq, i64_w, -List.length_flatten]) ?_
  refine rw_end ?_
  refine w_seq ?_
  refine w_cond rfl rfl (fun cL => ?_) (fun cL => ?_)
  · refine w_skip ?_
    refine w_seq ?_
    refine w_block ?_
    refine w_seq ?_
    refine w_region ?_
    have l_ := of_decide_eq_true cL
    obtain ⟨ad, A1, c1, hA_, hcell_, hle_, hC_⟩ := at_L2 (Kd.C_below hP hb2) (i : Int) (by omega) (by omega)
    subst hA_
    rw [show ((i : Int)).toNat = i by omega] at hcell_
    have htl_ := take_len ps i (by omega)
    have hfl3_ := take_le ps (i + 1)
    refine rw_val (v := .pointer (some (ad.add i))) (w' := w1) rfl rfl rfl rfl (by simp [go_sem, sEv, sLook, nbeq, i64_w, -List.length_flatten, Try.underlying22]; omega) ?_
    refine rw_val (v := .slice A1 ((rd_L2 ps (i : Int)).length) c1) (w' := w1) rfl rfl rfl rfl (by simp [go_sem, sEv, sLook, nbeq, i64_w, -List.length_flatten, hcell_]) ?_
    refine rw_val (v := .slice A1 ((rd_L2 ps (i : Int)).length) c1) (w' := w1) rfl rfl rfl rfl rfl ?_
    refine rw_end ?_
    refine w_seq ?_
    refine w_region ?_
    refine rw_val (v := .int .i64 ((ps.take i).flatten.length : Int)) (w' := w1) rfl rfl rfl rfl rfl ?_
    refine rw_val (v := .slice A1 ((rd_L2 ps (i : Int)).length) c1) (w' := w1) rfl rfl rfl rfl rfl ?_
    refine rw_val (v := .int .i64 ((rd_L2 ps (i : Int)).length : Int)) (w' := w1) rfl rfl rfl rfl (by simp [go_sem, sEv, sLook, nbeq, i64_w, -List.length_flatten]) ?_
    refine rw_val (v := .int .i64 ((ps.take (i + 1)).flatten.length : Int)) (w' := w1) rfl rfl rfl rfl (by simp [go_sem, sEv, sLook, nbeq, i64_w, -List.length_flatten]; rw [htl_, ← Int.natCast_add]; exact wrap_id (by omega) (by omega)) ?_
    refine rw_val (v := .int .i64 ((ps.take (i + 1)).flatten.length : Int)) (w' := w1) rfl rfl rfl rfl rfl ?_
    refine rw_end ?_
    refine w_weaken (G' := [(0, .pointer none), (1, .slice (some ad) ps.length pc), (4, .nilIface), (5, .int .i64 ((ps.take (i + 1)).flatten.length : Int)), (13, .slice (some ad) ps.length pc), (14, .int .i64 (ps.length : Int)), (15, .int .i64 (i : Int))]) ⟨rfl, rfl, rfl, rfl, rfl, rfl, rfl, trivial⟩ ?_
    refine w_seq ?_
    refine w_region ?_
    refine rw_val (v := .int .i64 ((ps.take (i + 1)).flatten.length : Int)) (w' := w1) rfl rfl rfl rfl rfl ?_
    refine rw_val (v := .bool (decide (1048576 < ((ps.take (i + 1)).flatten.length : Int)))) (w' := w1) rfl rfl rfl rfl (by simp [go_sem, sEv, sLook, nbeq, i64_w, -List.length_flatten]) ?_
    refine rw_end ?_
    have hq3 : (decide (1048576 < ((ps.take (i + 1)).flatten.length : Int))) = false := by simp only [decide_eq_false_iff_not]; omega
    refine w_cond_f rfl rfl hq3 ?_
    refine w_skip ?_
    refine w_blk ?_
    refine w_region ?_
    refine rw_val (v := .int .i64 ((i + 1 : Nat) : Int)) (w' := w1) rfl rfl rfl rfl (by simp [go_sem, sEv, sLook, nbeq, i64_w, -List.length_flatten]; have l_ := of_decide_eq_true cL; exact wrap_id (by omega) (by omega)) ?_
    refine rw_val (v := .int .i64 ((i + 1 : Nat) : Int)) (w' := w1) rfl rfl rfl rfl rfl ?_
    refine rw_end ?_
    have l_ := of_decide_eq_true cL
    exact w_back (m_ - 1) [(0, .pointer none), (1, .slice (some ad) ps.length pc), (4, .nilIface), (5, .int .i64 ((ps.take (i + 1)).flatten.length : Int)), (13, .slice (some ad) ps.length pc), (14, .int .i64 (ps.length : Int)), (15, .int .i64 ((i + 1 : Nat) : Int))] (by omega) ⟨rfl, rfl, rfl, rfl, rfl, rfl, rfl, trivial⟩ ⟨i + 1, by omega, rfl, rfl⟩
  · refine w_exit rfl ?_
    refine w_seq ?_
    refine w_seq ?_
    refine w_region ?_
    refine rw_val (v := .pointer none) (w' := w1) rfl rfl rfl rfl rfl ?_
    refine rw_call rfl rfl rfl rfl (f := 29) (args := #[.pointer none]) (by simp [go_sem, sEv, sLook, nbeq, i64_w, -List.length_flatten]) (step_nil w1) ?_
    rintro e_ w4 ⟨rfl, hb5⟩
    refine ⟨_, rfl, ?_⟩
    have hs_w4 := hb5.size
    refine rw_val (v := errT (some 5)) (w' := w4) rfl rfl rfl rfl rfl ?_
    refine rw_end ?_
    refine w_seq ?_
    refine w_region ?_
    refine rw_val (v := errT (some 5)) (w' := w4) rfl rfl rfl rfl rfl ?_
    refine rw_val (v := .bool ((some 5).isSome)) (w' := w4) rfl rfl rfl rfl (run_as (guard_err_neq _ (some 5) _)) ?_
    refine rw_end ?_
    refine w_cond_t rfl rfl rfl ?_
    refine w_seq ?_
    refine w_region ?_
    refine rw_val (v := errT (some 5)) (w' := w4) rfl rfl rfl rfl rfl ?_
    refine rw_val (v := errT (some 5)) (w' := w4) rfl rfl rfl rfl rfl ?_
    refine rw_end ?_
    refine w_ret (post_ret1 rfl rfl ?_)
    exact ⟨rfl, (chain hb2 hb5)⟩
set_option maxHeartbeats 4000000 in
theorem walkNone (w : World) (X0 : Option Addr) (d0 : Nat) (l0 : List Int) (h0 : (Kd.int .u8).C w X0 l0.length l0) (e0 : l0.length ≤ d0) (k : Int) :
    Calls Try.prog 9 #[.slice X0 l0.length d0, .int .i64 k] w fun e w' => e = .returned (.bool true) ∧ Below w.heap.size w w' := by
  refine calls_flow Try.func9 rfl 69 rfl (Nat.le_of_ble_eq_true rfl) [(0, .slice X0 l0.length d0), (1, .int .i64 k)] ?_ ?_
  · intro t v h; exact args_look rfl t v h
  refine w_seq ?_
  refine w_region ?_
  refine rw_val (v := .bool false) (w' := w) rfl rfl rfl rfl rfl ?_
  refine rw_end ?_
  refine w_seq ?_
  refine w_seq ?_
  refine w_region ?_
  refine rw_call rfl rfl rfl rfl (f := 10) (args := #[]) (by simp [go_sem, sEv, sLook, nbeq, i64_w]) (alive_calls w) ?_
  rintro e_ w1 ⟨rfl, hb2⟩
  refine ⟨_, rfl, ?_⟩
  have hs_w1 := hb2.size
  refine rw_val (v := .bool false) (w' := w1) rfl rfl rfl rfl (by simp [go_sem, sEv, sLook, nbeq, i64_w]) ?_
  refine rw_end ?_
  refine w_cond_f rfl rfl rfl ?_
  refine w_skip ?_
  refine w_seq ?_
  refine w_seq ?_
  refine w_region ?_
  refine rw_val (v := .slice X0 l0.length d0) (w' := w1) rfl rfl rfl rfl rfl ?_
  refine rw_val (v := .int .i64 (l0.length : Int)) (w' := w1) rfl rfl rfl rfl (by simp [go_sem, sEv, sLook, nbeq, i64_w]) ?_
  refine rw_val (v := .bool (decide (1048576 < (l0.length : Int)))) (w' := w1) rfl rfl rfl rfl (by simp [go_sem, sEv, sLook, nbeq, i64_w]) ?_
  refine rw_end ?_
  refine w_cond rfl rfl (fun cB => ?_) (fun cB => ?_)
  · refine w_seq ?_
    refine w_region ?_
    refine rw_val (v := .bool true) (w' := w1) rfl rfl rfl rfl rfl ?_
    refine rw_end ?_
    refine w_ret (post_ret1 rfl rfl ?_)
    exact ⟨rfl, hb2⟩
  · refine w_skip ?_
    refine w_seq ?_
    refine w_region ?_
    refine rw_val (v := .pointer none) (w' := w1) rfl rfl rfl rfl rfl ?_
    refine rw_end ?_
    refine w_seq ?_
    refine w_region ?_
    refine rw_val (v := .pointer none) (w' := w1) rfl rfl rfl rfl rfl ?_
    refine rw_call rfl rfl rfl rfl (f := 17) (args := #[.pointer none]) (by simp [go_sem, sEv, sLook, nbeq, i64_w]) (cut_nil w1) ?_
    rintro e_ w3 ⟨rfl, hb4⟩
    refine ⟨_, rfl, ?_⟩
    have hs_w3 := hb4.size
    refine rw_end ?_
    refine w_seq ?_
    refine w_region ?_
    refine rw_val (v := .pointer none) (w' := w3) rfl rfl rfl rfl rfl ?_
    refine rw_val (v := .int .i64 k) (w' := w3) rfl rfl rfl rfl rfl ?_
    refine rw_call rfl rfl rfl rfl (f := 14) (args := #[.pointer none, .int .i64 k]) (by simp [go_sem, sEv, sLook, nbeq, i64_w]) (crash_nil k w3) ?_
    rintro e_ w5 ⟨rfl, hb6⟩
    refine ⟨_, rfl, ?_⟩
    have hs_w5 := hb6.size
    refine rw_end ?_
    refine w_seq ?_
    refine w_region ?_
    refine rw_val (v := .pointer none) (w' := w5) rfl rfl rfl rfl rfl ?_
    refine rw_val (v := .slice X0 l0.length d0) (w' := w5) rfl rfl rfl rfl rfl ?_
    refine rw_new (cs := #[.slice X0 l0.length d0]) (t := 27) (fun g => .slice (some ⟨g, 0, none⟩) 1 1) rfl rfl rfl rfl (by kernel_rfl) ?_
    intro g7 w8 hg12 hz11 hb9 hk10
    have hs_w8 := hb9.size
    refine rw_call rfl rfl rfl rfl (f := 12) (args := #[.pointer none, .slice (some ⟨g7, 0, none⟩) 1 1]) (by simp [go_sem, sEv, sLook, nbeq, i64_w]) (append_nil w8 _ [l0] 1 (rows1 (hk10) e0 (Kd.C_below h0 (chain (chain (chain hb2 hb4) hb6) hb9))) (by simp) (by have f_ := of_decide_eq_false cB; simp; omega)) ?_
    rintro e_ w13 ⟨rfl, hb14⟩
    refine ⟨_, rfl, ?_⟩
    have hs_w13 := hb14.size
    refine rw_val (v := errT (some 5)) (w' := w13) rfl rfl rfl rfl (by simp [go_sem, sEv, sLook, nbeq, i64_w, errT]) ?_
    refine rw_val (v := .bool true) (w' := w13) rfl rfl rfl rfl (run_bool (run_as (guard_err_eql _ _ (some 5) 5 _)) (by decide)) ?_
    refine rw_val (v := .bool true) (w' := w13) rfl rfl rfl rfl rfl ?_
    refine rw_on (c := true) rfl rfl rfl rfl ?_
    refine rw_val (v := .pointer none) (w' := w13) rfl rfl rfl rfl rfl ?_
    refine rw_on (c := true) rfl rfl rfl rfl ?_
    refine rw_call rfl rfl rfl rfl (f := 13) (args := #[.pointer none]) (by simp [go_sem, sEv, sLook, nbeq, i64_w]) (sync_nil w13) ?_
    rintro e_ w15 ⟨rfl, hb16⟩
    refine ⟨_, rfl, ?_⟩
    have hs_w15 := hb16.size
    refine rw_on (c := true) rfl rfl rfl rfl ?_
    refine rw_val (v := errT (some 5)) (w' := w15) rfl rfl rfl rfl (by simp [go_sem, sEv, sLook, nbeq, i64_w, errT]) ?_
    refine rw_on (c := true) rfl rfl rfl rfl ?_
    refine rw_val (v := .bool true) (w' := w15) rfl rfl rfl rfl (run_bool (run_as (guard_err_eql _ _ (some 5) 5 _)) (by decide)) ?_
    refine rw_val (v := .bool true) (w' := w15) rfl rfl rfl rfl (by simp [go_sem, sEv, sLook, nbeq, i64_w]) ?_
    refine rw_val (v := .bool true) (w' := w15) rfl rfl rfl rfl rfl ?_
    refine rw_on (c := true) rfl rfl rfl rfl ?_
    refine rw_val (v := .pointer none) (w' := w15) rfl rfl rfl rfl rfl ?_
    refine rw_on (c := true) rfl rfl rfl rfl ?_
    refine rw_val (v := .slice X0 l0.length d0) (w' := w15) rfl rfl rfl rfl rfl ?_
    refine rw_on (c := true) rfl rfl rfl rfl ?_
    refine rw_call rfl rfl rfl rfl (f := 18) (args := #[.pointer none, .slice X0 l0.length d0]) (by simp [go_sem, sEv, sLook, nbeq, i64_w]) (replace_nil X0 l0.length d0 cB w15) ?_
    rintro e_ w17 ⟨rfl, hb18⟩
    refine ⟨_, rfl, ?_⟩
    have hs_w17 := hb18.size
    refine rw_on (c := true) rfl rfl rfl rfl ?_
    refine rw_val (v := errT (some 5)) (w' := w17) rfl rfl rfl rfl (by simp [go_sem, sEv, sLook, nbeq, i64_w, errT]) ?_
    refine rw_on (c := true) rfl rfl rfl rfl ?_
    refine rw_val (v := .bool true) (w' := w17) rfl rfl rfl rfl (run_bool (run_as (guard_err_eql _ _ (some 5) 5 _)) (by decide)) ?_
    refine rw_val (v := .bool true) (w' := w17) rfl rfl rfl rfl (by simp [go_sem, sEv, sLook, nbeq, i64_w]) ?_
    refine rw_val (v := .bool true) (w' := w17) rfl rfl rfl rfl rfl ?_
    refine rw_on (c := true) rfl rfl rfl rfl ?_
    refine rw_val (v := .pointer none) (w' := w17) rfl rfl rfl rfl rfl ?_
    refine rw_on (c := true) rfl rfl rfl rfl ?_
    refine rw_val (v := .int .i64 k) (w' := w17) rfl rfl rfl rfl rfl ?_
    refine rw_on (c := true) rfl rfl rfl rfl ?_
    refine rw_call rfl rfl rfl rfl (f := 20) (args := #[.pointer none, .int .i64 k]) (by simp [go_sem, sEv, sLook, nbeq, i64_w]) (arm_nil k w17) ?_
    rintro e_ w19 ⟨rfl, hb20⟩
    refine ⟨_, rfl, ?_⟩
    have hs_w19 := hb20.size
    refine rw_on (c := true) rfl rfl rfl rfl ?_
    refine rw_val (v := errT (some 1)) (w' := w19) rfl rfl rfl rfl (by simp [go_sem, sEv, sLook, nbeq, i64_w, errT]) ?_
    refine rw_on (c := true) rfl rfl rfl rfl ?_
    refine rw_val (v := .bool true) (w' := w19) rfl rfl rfl rfl (run_bool (run_as (guard_err_eql _ _ (some 1) 1 _)) (by decide)) ?_
    refine rw_val (v := .bool true) (w' := w19) rfl rfl rfl rfl (by simp [go_sem, sEv, sLook, nbeq, i64_w]) ?_
    refine rw_val (v := .bool true) (w' := w19) rfl rfl rfl rfl rfl ?_
    refine rw_on (c := true) rfl rfl rfl rfl ?_
    refine rw_val (v := .pointer none) (w' := w19) rfl rfl rfl rfl rfl ?_
    refine rw_on (c := true) rfl rfl rfl rfl ?_
    refine rw_val (v := .int .i64 k) (w' := w19) rfl rfl rfl rfl rfl ?_
    refine rw_on (c := true) rfl rfl rfl rfl ?_
    refine rw_call rfl rfl rfl rfl (f := 21) (args := #[.pointer none, .int .i64 k]) (by simp [go_sem, sEv, sLook, nbeq, i64_w]) (fail_nil k w19) ?_
    rintro e_ w21 ⟨rfl, hb22⟩
    refine ⟨_, rfl, ?_⟩
    have hs_w21 := hb22.size
    refine rw_on (c := true) rfl rfl rfl rfl ?_
    refine rw_val (v := errT (some 1)) (w' := w21) rfl rfl rfl rfl (by simp [go_sem, sEv, sLook, nbeq, i64_w, errT]) ?_
    refine rw_on (c := true) rfl rfl rfl rfl ?_
    refine rw_val (v := .bool true) (w' := w21) rfl rfl rfl rfl (run_bool (run_as (guard_err_eql _ _ (some 1) 1 _)) (by decide)) ?_
    refine rw_val (v := .bool true) (w' := w21) rfl rfl rfl rfl (by simp [go_sem, sEv, sLook, nbeq, i64_w]) ?_
    refine rw_val (v := .bool true) (w' := w21) rfl rfl rfl rfl rfl ?_
    refine rw_on (c := true) rfl rfl rfl rfl ?_
    refine rw_val (v := .pointer none) (w' := w21) rfl rfl rfl rfl rfl ?_
    refine rw_on (c := true) rfl rfl rfl rfl ?_
    refine rw_call rfl rfl rfl rfl (f := 15) (args := #[.pointer none]) (by simp [go_sem, sEv, sLook, nbeq, i64_w]) (read_nil w21) ?_
    rintro e_ w23 ⟨rfl, hb24⟩
    refine ⟨_, rfl, ?_⟩
    have hs_w23 := hb24.size
    refine rw_on (c := true) rfl rfl rfl rfl ?_
    refine rw_val (v := .int .i64 0) (w' := w23) rfl rfl rfl rfl (by simp [go_sem, sEv, sLook, nbeq, i64_w]) ?_
    refine rw_on (c := true) rfl rfl rfl rfl ?_
    refine rw_val (v := .bool true) (w' := w23) rfl rfl rfl rfl (by simp [go_sem, sEv, sLook, nbeq, i64_w]) ?_
    refine rw_val (v := .bool true) (w' := w23) rfl rfl rfl rfl (by simp [go_sem, sEv, sLook, nbeq, i64_w]) ?_
    refine rw_val (v := .bool true) (w' := w23) rfl rfl rfl rfl rfl ?_
    refine rw_on (c := true) rfl rfl rfl rfl ?_
    refine rw_val (v := .pointer none) (w' := w23) rfl rfl rfl rfl rfl ?_
    refine rw_on (c := true) rfl rfl rfl rfl ?_
    refine rw_call rfl rfl rfl rfl (f := 16) (args := #[.pointer none]) (by simp [go_sem, sEv, sLook, nbeq, i64_w]) (sure_nil w23) ?_
    rintro e_ w25 ⟨rfl, hb26⟩
    refine ⟨_, rfl, ?_⟩
    have hs_w25 := hb26.size
    refine rw_on (c := true) rfl rfl rfl rfl ?_
    refine rw_val (v := .bool true) (w' := w25) rfl rfl rfl rfl (by simp [go_sem, sEv, sLook, nbeq, i64_w]) ?_
    refine rw_val (v := .bool true) (w' := w25) rfl rfl rfl rfl (by simp [go_sem, sEv, sLook, nbeq, i64_w]) ?_
    refine rw_val (v := .bool true) (w' := w25) rfl rfl rfl rfl rfl ?_
    refine rw_on (c := true) rfl rfl rfl rfl ?_
    refine rw_val (v := .pointer none) (w' := w25) rfl rfl rfl rfl rfl ?_
    refine rw_on (c := true) rfl rfl rfl rfl ?_
    refine rw_call rfl rfl rfl rfl (f := 19) (args := #[.pointer none]) (by simp [go_sem, sEv, sLook, nbeq, i64_w]) (steps_nil w25) ?_
    rintro e_ w27 ⟨rfl, hb28⟩
    refine ⟨_, rfl, ?_⟩
    have hs_w27 := hb28.size
    refine rw_on (c := true) rfl rfl rfl rfl ?_
    refine rw_val (v := .bool true) (w' := w27) rfl rfl rfl rfl (by simp [go_sem, sEv, sLook, nbeq, i64_w]) ?_
    refine rw_val (v := .bool true) (w' := w27) rfl rfl rfl rfl (by simp [go_sem, sEv, sLook, nbeq, i64_w]) ?_
    refine rw_val (v := .bool true) (w' := w27) rfl rfl rfl rfl rfl ?_
    refine rw_on (c := true) rfl rfl rfl rfl ?_
    refine rw_val (v := .pointer none) (w' := w27) rfl rfl rfl rfl rfl ?_
    refine rw_on (c := true) rfl rfl rfl rfl ?_
    refine rw_call rfl rfl rfl rfl (f := 23) (args := #[.pointer none]) (by simp [go_sem, sEv, sLook, nbeq, i64_w]) (down_nil w27) ?_
    rintro e_ w29 ⟨rfl, hb30⟩
    refine ⟨_, rfl, ?_⟩
    have hs_w29 := hb30.size
    refine rw_val (v := .bool true) (w' := w29) rfl rfl rfl rfl (by simp [go_sem, sEv, sLook, nbeq, i64_w]) ?_
    refine rw_val (v := .bool true) (w' := w29) rfl rfl rfl rfl rfl ?_
    refine rw_end ?_
    refine w_weaken (G' := [(4, .bool true)]) ⟨rfl, trivial⟩ ?_
    refine w_ret (post_ret1 rfl rfl ?_)
    exact ⟨rfl, (chain (chain (chain (chain (chain (chain (chain (chain (chain (chain (chain (chain hb2 hb4) hb6) hb9) hb14) hb16) hb18) hb20) hb22) hb24) hb26) hb28) hb30)⟩
end Go.Proofs.Ytpbpeklbmmbigaa.Tp
