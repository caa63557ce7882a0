/- A nil diary: the law's walk. -/
import Derived.Test.YtiiljpaedelhlaaDyAlive
namespace Go.Proofs.Ytiiljpaedelhlaa.Tp
open Go.RowKit Go.Proofs.YtiiljpaedelhlaaW.PrintWords Go.Proofs.YtiiljpaedelhlaaW.PrintLast Go.Proofs.YtiiljpaedelhlaaW.PrintMore
open Go.Proofs.Ytiiljpaedelhlaa.Flow
open Go.Proofs.Ytiiljpaedelhlaa.PDiaryPlays (SplitR Bytes frameB frameE FC wholeP errW wrap_calls split_calls frameB_len frameB_bytes)
set_option linter.unusedVariables false
set_option linter.unusedSimpArgs false


theorem rwFull_one (row : List Int) : rwFull [row] = decide (16376 < row.length) := by
  have h := frameB_short row
  unfold rwFull
  rw [FC_one, decide_eq_false (show ¬ 1048576 < (frameB row).length by omega)]
  simp
set_option maxHeartbeats 4000000 in
theorem walkNone (w : World) (A1 : Option Addr) (c1 : Nat) (row : List Int) (hr : (Kd.int .u8).C w A1 row.length row) (hc1 : row.length ≤ c1) (hl : row.length ≤ 140737488355328) :
    Calls Try.prog 6 #[.slice A1 row.length c1] w fun e w' => e = .returned (.bool true) ∧ Below w.heap.size w w' := by
  refine calls_flow Try.func6 rfl 53 rfl (Nat.le_of_ble_eq_true rfl) [(0, .slice A1 row.length c1)] ?_ ?_
  · intro t v h; exact args_look rfl t v h
  refine w_seq ?_
  refine w_region ?_
  refine rw_val (v := .bool false) (w' := w) rfl rfl rfl rfl rfl ?_
  refine rw_end ?_
  refine w_seq ?_
  refine w_seq ?_
  refine w_region ?_
  refine rw_call rfl rfl rfl rfl (f := 9) (args := #[]) (by simp [go_sem, sEv, sLook, nbeq, i64_w, -List.getD_eq_getElem?_getD]) (alive_calls w) ?_
  rintro e_ w1 ⟨rfl, hb2⟩
  refine ⟨_, rfl, ?_⟩
  have hs_w1 := hb2.size
  refine rw_val (v := .bool false) (w' := w1) rfl rfl rfl rfl (by simp [go_sem, sEv, sLook, nbeq, i64_w, -List.getD_eq_getElem?_getD]) ?_
  refine rw_end ?_
  refine w_cond_f rfl rfl rfl ?_
  refine w_skip ?_
  refine w_seq ?_
  refine w_region ?_
  refine rw_val (v := .pointer none) (w' := w1) rfl rfl rfl rfl rfl ?_
  refine rw_end ?_
  refine w_seq ?_
  refine w_region ?_
  refine rw_call rfl rfl rfl rfl (f := 11) (args := #[.pointer none]) (by simp [go_sem, sEv, sLook, nbeq, i64_w, -List.getD_eq_getElem?_getD]) (open_N w1) ?_
  rintro e_ w3 ⟨rfl, hb4⟩
  refine ⟨_, rfl, ?_⟩
  have hs_w3 := hb4.size
  refine rw_val (v := .tuple #[.pointer none, .slice none 0 0, errT (some 5)]) (w' := w3) rfl rfl rfl rfl rfl ?_
  refine rw_val (v := .pointer none) (w' := w3) rfl rfl rfl rfl (by simp [go_sem, sEv, sLook, nbeq, i64_w, -List.getD_eq_getElem?_getD]) ?_
  refine rw_val (v := .slice none 0 0) (w' := w3) rfl rfl rfl rfl (by simp [go_sem, sEv, sLook, nbeq, i64_w, -List.getD_eq_getElem?_getD]) ?_
  refine rw_val (v := errT (some 5)) (w' := w3) rfl rfl rfl rfl (by simp [go_sem, sEv, sLook, nbeq, i64_w, -List.getD_eq_getElem?_getD]) ?_
  refine rw_val (v := .pointer none) (w' := w3) rfl rfl rfl rfl rfl ?_
  refine rw_val (v := .slice none 0 0) (w' := w3) rfl rfl rfl rfl rfl ?_
  refine rw_val (v := errT (some 5)) (w' := w3) rfl rfl rfl rfl rfl ?_
  refine rw_end ?_
  refine w_weaken (G' := [(0, .slice A1 row.length c1), (2, .bool false), (3, .pointer none), (5, .slice none 0 0), (6, errT (some 5))]) ⟨rfl, rfl, rfl, rfl, rfl, trivial⟩ ?_
  refine w_seq ?_
  refine w_region ?_
  refine rw_val (v := .int .i64 5) (w' := w3) rfl rfl rfl rfl rfl ?_
  refine rw_end ?_
  refine w_seq ?_
  refine w_seq ?_
  refine w_region ?_
  refine rw_val (v := .slice A1 row.length c1) (w' := w3) rfl rfl rfl rfl rfl ?_
  refine rw_val (v := .int .i64 ((row.length : Nat) : Int)) (w' := w3) rfl rfl rfl rfl (by simp [go_sem, sEv, sLook, nbeq, i64_w, -List.getD_eq_getElem?_getD]) ?_
  refine rw_val (v := .bool (decide (16376 < ((row.length : Nat) : Int)))) (w' := w3) rfl rfl rfl rfl (by simp [go_sem, sEv, sLook, nbeq, i64_w, -List.getD_eq_getElem?_getD]) ?_
  refine rw_end ?_
  refine w_cond rfl rfl (fun cB => ?_) (fun cB => ?_)
  · have l5 : (16376 < ((row.length : Nat) : Int)) := of_decide_eq_true cB
    refine w_region ?_
    refine rw_val (v := .int .i64 7) (w' := w3) rfl rfl rfl rfl rfl ?_
    refine rw_end ?_
    refine w_seq ?_
    refine w_region ?_
    refine rw_val (v := errT (some 5)) (w' := w3) rfl rfl rfl rfl rfl ?_
    refine rw_val (v := errT (some 5)) (w' := w3) rfl rfl rfl rfl (by simp [go_sem, sEv, sLook, nbeq, i64_w, -List.getD_eq_getElem?_getD, errT]) ?_
    refine rw_val (v := .bool true) (w' := w3) rfl rfl rfl rfl (run_bool (run_as (guard_err_eql _ _ (some 5) 5 _)) (by decide)) ?_
    refine rw_val (v := .bool true) (w' := w3) rfl rfl rfl rfl rfl ?_
    refine rw_on (c := true) rfl rfl rfl rfl ?_
    refine rw_val (v := .slice none 0 0) (w' := w3) rfl rfl rfl rfl rfl ?_
    refine rw_on (c := true) rfl rfl rfl rfl ?_
    refine rw_val (v := .int .i64 0) (w' := w3) rfl rfl rfl rfl (by simp [go_sem, sEv, sLook, nbeq, i64_w, -List.getD_eq_getElem?_getD]) ?_
    refine rw_on (c := true) rfl rfl rfl rfl ?_
    refine rw_val (v := .bool true) (w' := w3) rfl rfl rfl rfl (by simp [go_sem, sEv, sLook, nbeq, i64_w, -List.getD_eq_getElem?_getD]) ?_
    refine rw_val (v := .bool true) (w' := w3) rfl rfl rfl rfl (by simp [go_sem, sEv, sLook, nbeq, i64_w, -List.getD_eq_getElem?_getD]) ?_
    refine rw_val (v := .bool true) (w' := w3) rfl rfl rfl rfl rfl ?_
    refine rw_on (c := true) rfl rfl rfl rfl ?_
    refine rw_val (v := .pointer none) (w' := w3) rfl rfl rfl rfl rfl ?_
    refine rw_on (c := true) rfl rfl rfl rfl ?_
    refine rw_val (v := .slice A1 row.length c1) (w' := w3) rfl rfl rfl rfl rfl ?_
    refine rw_on (c := true) rfl rfl rfl rfl ?_
    refine rw_call rfl rfl rfl rfl (f := 12) (args := #[.pointer none, .slice A1 row.length c1]) (by simp [go_sem, sEv, sLook, nbeq, i64_w, -List.getD_eq_getElem?_getD]) (add_N w3 A1 c1 row (Kd.C_below hr (chain hb2 hb4)) hc1 (by omega)) ?_
    rintro e_ w6 ⟨rfl, hb7⟩
    refine ⟨_, rfl, ?_⟩
    rw [show (if (frameE row).isSome then frameE row else some 5) = some 7 by rw [show frameE row = some 7 by unfold frameE; rw [if_pos (by omega)]]; rfl]
    have hs_w6 := hb7.size
    refine rw_on (c := true) rfl rfl rfl rfl ?_
    refine rw_val (v := .int .i64 7) (w' := w6) rfl rfl rfl rfl rfl ?_
    refine rw_on (c := true) rfl rfl rfl rfl ?_
    refine rw_val (v := errT (some 7)) (w' := w6) rfl rfl rfl rfl (by simp [go_sem, sEv, sLook, nbeq, i64_w, -List.getD_eq_getElem?_getD, errT]) ?_
    refine rw_on (c := true) rfl rfl rfl rfl ?_
    refine rw_val (v := .bool true) (w' := w6) rfl rfl rfl rfl (run_bool (run_as (guard_err_eql _ _ (some 7) 7 _)) (by decide)) ?_
    refine rw_val (v := .bool true) (w' := w6) rfl rfl rfl rfl (by simp [go_sem, sEv, sLook, nbeq, i64_w, -List.getD_eq_getElem?_getD]) ?_
    refine rw_val (v := .bool true) (w' := w6) rfl rfl rfl rfl rfl ?_
    refine rw_on (c := true) rfl rfl rfl rfl ?_
    refine rw_val (v := .pointer none) (w' := w6) rfl rfl rfl rfl rfl ?_
    refine rw_on (c := true) rfl rfl rfl rfl ?_
    refine rw_val (v := .slice A1 row.length c1) (w' := w6) rfl rfl rfl rfl rfl ?_
    refine rw_on (c := true) rfl rfl rfl rfl ?_
    refine rw_new (cs := #[.slice A1 row.length c1]) (t := 32) (fun g => .slice (some ⟨g, 0, none⟩) 1 1) rfl rfl rfl rfl (by kernel_rfl) ?_
    intro g8 w9 hg13 hz12 hb10 hk11
    have hs_w9 := hb10.size
    have hP14 : (Kd.slice 5 (Kd.int .u8)).C w9 (some ⟨g8, 0, none⟩) [row].length [row] := rows1 hk11 hc1 (Kd.C_below hr (chain (chain (chain hb2 hb4) hb7) hb10))
    refine rw_on (c := true) rfl rfl rfl rfl ?_
    refine rw_call rfl rfl rfl rfl (f := 21) (args := #[.pointer none, .slice (some ⟨g8, 0, none⟩) 1 1]) (by simp [go_sem, sEv, sLook, nbeq, i64_w, -List.getD_eq_getElem?_getD]) (rewrite_N w9 (some ⟨g8, 0, none⟩) 1 [row] (Kd.C_below hP14 (Below.refl _ _)) (by simp) (by simp) (by intro p hp; rw [List.mem_singleton.1 hp]; omega)) ?_
    rintro e_ w15 ⟨rfl, hb16⟩
    refine ⟨_, rfl, ?_⟩
    rw [show (if rwFull [row] = true then some 7 else some 5) = (some 7 : Option Int) by rw [rwFull_one]; rw [if_pos (by simp; omega)]]
    have hs_w15 := hb16.size
    refine rw_on (c := true) rfl rfl rfl rfl ?_
    refine rw_val (v := .int .i64 7) (w' := w15) rfl rfl rfl rfl rfl ?_
    refine rw_on (c := true) rfl rfl rfl rfl ?_
    refine rw_val (v := errT (some 7)) (w' := w15) rfl rfl rfl rfl (by simp [go_sem, sEv, sLook, nbeq, i64_w, -List.getD_eq_getElem?_getD, errT]) ?_
    refine rw_on (c := true) rfl rfl rfl rfl ?_
    refine rw_val (v := .bool true) (w' := w15) rfl rfl rfl rfl (run_bool (run_as (guard_err_eql _ _ (some 7) 7 _)) (by decide)) ?_
    refine rw_val (v := .bool true) (w' := w15) rfl rfl rfl rfl (by simp [go_sem, sEv, sLook, nbeq, i64_w, -List.getD_eq_getElem?_getD]) ?_
    refine rw_val (v := .bool true) (w' := w15) rfl rfl rfl rfl rfl ?_
    refine rw_on (c := true) rfl rfl rfl rfl ?_
    refine rw_val (v := .pointer none) (w' := w15) rfl rfl rfl rfl rfl ?_
    refine rw_on (c := true) rfl rfl rfl rfl ?_
    refine rw_call rfl rfl rfl rfl (f := 15) (args := #[.pointer none]) (by simp [go_sem, sEv, sLook, nbeq, i64_w, -List.getD_eq_getElem?_getD]) (len_N w15) ?_
    rintro e_ w17 ⟨rfl, hb18⟩
    refine ⟨_, rfl, ?_⟩
    have hs_w17 := hb18.size
    refine rw_on (c := true) rfl rfl rfl rfl ?_
    refine rw_val (v := .bool true) (w' := w17) rfl rfl rfl rfl (by simp [go_sem, sEv, sLook, nbeq, i64_w, -List.getD_eq_getElem?_getD]) ?_
    refine rw_val (v := .bool true) (w' := w17) rfl rfl rfl rfl (by simp [go_sem, sEv, sLook, nbeq, i64_w, -List.getD_eq_getElem?_getD]) ?_
    refine rw_val (v := .bool true) (w' := w17) rfl rfl rfl rfl rfl ?_
    refine rw_on (c := true) rfl rfl rfl rfl ?_
    refine rw_val (v := .pointer none) (w' := w17) rfl rfl rfl rfl rfl ?_
    refine rw_on (c := true) rfl rfl rfl rfl ?_
    refine rw_call rfl rfl rfl rfl (f := 16) (args := #[.pointer none]) (by simp [go_sem, sEv, sLook, nbeq, i64_w, -List.getD_eq_getElem?_getD]) (bytes_N w17) ?_
    rintro e_ w19 ⟨rfl, hb20⟩
    refine ⟨_, rfl, ?_⟩
    have hs_w19 := hb20.size
    refine rw_on (c := true) rfl rfl rfl rfl ?_
    refine rw_val (v := .bool true) (w' := w19) rfl rfl rfl rfl (by simp [go_sem, sEv, sLook, nbeq, i64_w, -List.getD_eq_getElem?_getD]) ?_
    refine rw_val (v := .bool true) (w' := w19) rfl rfl rfl rfl (by simp [go_sem, sEv, sLook, nbeq, i64_w, -List.getD_eq_getElem?_getD]) ?_
    refine rw_val (v := .bool true) (w' := w19) rfl rfl rfl rfl rfl ?_
    refine rw_end ?_
    refine w_weaken (G' := [(2, .bool true)]) ⟨rfl, trivial⟩ ?_
    refine w_ret (post_ret1 rfl rfl ?_)
    exact ⟨rfl, (chain (chain (chain (chain (chain (chain hb2 hb4) hb7) hb10) hb16) hb18) hb20)⟩
  · have l21 : ¬ (16376 < ((row.length : Nat) : Int)) := of_decide_eq_false cB
    refine w_skip ?_
    refine w_seq ?_
    refine w_region ?_
    refine rw_val (v := errT (some 5)) (w' := w3) rfl rfl rfl rfl rfl ?_
    refine rw_val (v := errT (some 5)) (w' := w3) rfl rfl rfl rfl (by simp [go_sem, sEv, sLook, nbeq, i64_w, -List.getD_eq_getElem?_getD, errT]) ?_
    refine rw_val (v := .bool true) (w' := w3) rfl rfl rfl rfl (run_bool (run_as (guard_err_eql _ _ (some 5) 5 _)) (by decide)) ?_
    refine rw_val (v := .bool true) (w' := w3) rfl rfl rfl rfl rfl ?_
    refine rw_on (c := true) rfl rfl rfl rfl ?_
    refine rw_val (v := .slice none 0 0) (w' := w3) rfl rfl rfl rfl rfl ?_
    refine rw_on (c := true) rfl rfl rfl rfl ?_
    refine rw_val (v := .int .i64 0) (w' := w3) rfl rfl rfl rfl (by simp [go_sem, sEv, sLook, nbeq, i64_w, -List.getD_eq_getElem?_getD]) ?_
    refine rw_on (c := true) rfl rfl rfl rfl ?_
    refine rw_val (v := .bool true) (w' := w3) rfl rfl rfl rfl (by simp [go_sem, sEv, sLook, nbeq, i64_w, -List.getD_eq_getElem?_getD]) ?_
    refine rw_val (v := .bool true) (w' := w3) rfl rfl rfl rfl (by simp [go_sem, sEv, sLook, nbeq, i64_w, -List.getD_eq_getElem?_getD]) ?_
    refine rw_val (v := .bool true) (w' := w3) rfl rfl rfl rfl rfl ?_
    refine rw_on (c := true) rfl rfl rfl rfl ?_
    refine rw_val (v := .pointer none) (w' := w3) rfl rfl rfl rfl rfl ?_
    refine rw_on (c := true) rfl rfl rfl rfl ?_
    refine rw_val (v := .slice A1 row.length c1) (w' := w3) rfl rfl rfl rfl rfl ?_
    refine rw_on (c := true) rfl rfl rfl rfl ?_
    refine rw_call rfl rfl rfl rfl (f := 12) (args := #[.pointer none, .slice A1 row.length c1]) (by simp [go_sem, sEv, sLook, nbeq, i64_w, -List.getD_eq_getElem?_getD]) (add_N w3 A1 c1 row (Kd.C_below hr (chain hb2 hb4)) hc1 (by omega)) ?_
    rintro e_ w22 ⟨rfl, hb23⟩
    refine ⟨_, rfl, ?_⟩
    rw [show (if (frameE row).isSome then frameE row else some 5) = some 5 by rw [show frameE row = none by unfold frameE; rw [if_neg (by omega)]]; rfl]
    have hs_w22 := hb23.size
    refine rw_on (c := true) rfl rfl rfl rfl ?_
    refine rw_val (v := .int .i64 5) (w' := w22) rfl rfl rfl rfl rfl ?_
    refine rw_on (c := true) rfl rfl rfl rfl ?_
    refine rw_val (v := errT (some 5)) (w' := w22) rfl rfl rfl rfl (by simp [go_sem, sEv, sLook, nbeq, i64_w, -List.getD_eq_getElem?_getD, errT]) ?_
    refine rw_on (c := true) rfl rfl rfl rfl ?_
    refine rw_val (v := .bool true) (w' := w22) rfl rfl rfl rfl (run_bool (run_as (guard_err_eql _ _ (some 5) 5 _)) (by decide)) ?_
    refine rw_val (v := .bool true) (w' := w22) rfl rfl rfl rfl (by simp [go_sem, sEv, sLook, nbeq, i64_w, -List.getD_eq_getElem?_getD]) ?_
    refine rw_val (v := .bool true) (w' := w22) rfl rfl rfl rfl rfl ?_
    refine rw_on (c := true) rfl rfl rfl rfl ?_
    refine rw_val (v := .pointer none) (w' := w22) rfl rfl rfl rfl rfl ?_
    refine rw_on (c := true) rfl rfl rfl rfl ?_
    refine rw_val (v := .slice A1 row.length c1) (w' := w22) rfl rfl rfl rfl rfl ?_
    refine rw_on (c := true) rfl rfl rfl rfl ?_
    refine rw_new (cs := #[.slice A1 row.length c1]) (t := 32) (fun g => .slice (some ⟨g, 0, none⟩) 1 1) rfl rfl rfl rfl (by kernel_rfl) ?_
    intro g24 w25 hg29 hz28 hb26 hk27
    have hs_w25 := hb26.size
    have hP30 : (Kd.slice 5 (Kd.int .u8)).C w25 (some ⟨g24, 0, none⟩) [row].length [row] := rows1 hk27 hc1 (Kd.C_below hr (chain (chain (chain hb2 hb4) hb23) hb26))
    refine rw_on (c := true) rfl rfl rfl rfl ?_
    refine rw_call rfl rfl rfl rfl (f := 21) (args := #[.pointer none, .slice (some ⟨g24, 0, none⟩) 1 1]) (by simp [go_sem, sEv, sLook, nbeq, i64_w, -List.getD_eq_getElem?_getD]) (rewrite_N w25 (some ⟨g24, 0, none⟩) 1 [row] (Kd.C_below hP30 (Below.refl _ _)) (by simp) (by simp) (by intro p hp; rw [List.mem_singleton.1 hp]; omega)) ?_
    rintro e_ w31 ⟨rfl, hb32⟩
    refine ⟨_, rfl, ?_⟩
    rw [show (if rwFull [row] = true then some 7 else some 5) = (some 5 : Option Int) by rw [rwFull_one]; rw [if_neg (by simp; omega)]]
    have hs_w31 := hb32.size
    refine rw_on (c := true) rfl rfl rfl rfl ?_
    refine rw_val (v := .int .i64 5) (w' := w31) rfl rfl rfl rfl rfl ?_
    refine rw_on (c := true) rfl rfl rfl rfl ?_
    refine rw_val (v := errT (some 5)) (w' := w31) rfl rfl rfl rfl (by simp [go_sem, sEv, sLook, nbeq, i64_w, -List.getD_eq_getElem?_getD, errT]) ?_
    refine rw_on (c := true) rfl rfl rfl rfl ?_
    refine rw_val (v := .bool true) (w' := w31) rfl rfl rfl rfl (run_bool (run_as (guard_err_eql _ _ (some 5) 5 _)) (by decide)) ?_
    refine rw_val (v := .bool true) (w' := w31) rfl rfl rfl rfl (by simp [go_sem, sEv, sLook, nbeq, i64_w, -List.getD_eq_getElem?_getD]) ?_
    refine rw_val (v := .bool true) (w' := w31) rfl rfl rfl rfl rfl ?_
    refine rw_on (c := true) rfl rfl rfl rfl ?_
    refine rw_val (v := .pointer none) (w' := w31) rfl rfl rfl rfl rfl ?_
    refine rw_on (c := true) rfl rfl rfl rfl ?_
    refine rw_call rfl rfl rfl rfl (f := 15) (args := #[.pointer none]) (by simp [go_sem, sEv, sLook, nbeq, i64_w, -List.getD_eq_getElem?_getD]) (len_N w31) ?_
    rintro e_ w33 ⟨rfl, hb34⟩
    refine ⟨_, rfl, ?_⟩
    have hs_w33 := hb34.size
    refine rw_on (c := true) rfl rfl rfl rfl ?_
    refine rw_val (v := .bool true) (w' := w33) rfl rfl rfl rfl (by simp [go_sem, sEv, sLook, nbeq, i64_w, -List.getD_eq_getElem?_getD]) ?_
    refine rw_val (v := .bool true) (w' := w33) rfl rfl rfl rfl (by simp [go_sem, sEv, sLook, nbeq, i64_w, -List.getD_eq_getElem?_getD]) ?_
    refine rw_val (v := .bool true) (w' := w33) rfl rfl rfl rfl rfl ?_
    refine rw_on (c := true) rfl rfl rfl rfl ?_
    refine rw_val (v := .pointer none) (w' := w33) rfl rfl rfl rfl rfl ?_
    refine rw_on (c := true) rfl rfl rfl rfl ?_
    refine rw_call rfl rfl rfl rfl (f := 16) (args := #[.pointer none]) (by simp [go_sem, sEv, sLook, nbeq, i64_w, -List.getD_eq_getElem?_getD]) (bytes_N w33) ?_
    rintro e_ w35 ⟨rfl, hb36⟩
    refine ⟨_, rfl, ?_⟩
    have hs_w35 := hb36.size
    refine rw_on (c := true) rfl rfl rfl rfl ?_
    refine rw_val (v := .bool true) (w' := w35) rfl rfl rfl rfl (by simp [go_sem, sEv, sLook, nbeq, i64_w, -List.getD_eq_getElem?_getD]) ?_
    refine rw_val (v := .bool true) (w' := w35) rfl rfl rfl rfl (by simp [go_sem, sEv, sLook, nbeq, i64_w, -List.getD_eq_getElem?_getD]) ?_
    refine rw_val (v := .bool true) (w' := w35) rfl rfl rfl rfl rfl ?_
    refine rw_end ?_
    refine w_weaken (G' := [(2, .bool true)]) ⟨rfl, trivial⟩ ?_
    refine w_ret (post_ret1 rfl rfl ?_)
    exact ⟨rfl, (chain (chain (chain (chain (chain (chain hb2 hb4) hb23) hb26) hb32) hb34) hb36)⟩
end Go.Proofs.Ytiiljpaedelhlaa.Tp
