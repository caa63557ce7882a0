/- A frame with another byte isn't whole: the walk. -/
import Derived.Test.YtjndoihnpnmbjaaFrNone
namespace Go.Proofs.Ytjndoihnpnmbjaa.PFrameSums
open Go.RowKit Go.Proofs.YtjndoihnpnmbjaaW.PrintWords Go.Proofs.YtjndoihnpnmbjaaW.PrintLast Go.Proofs.YtjndoihnpnmbjaaW.PrintMore
open Go.Proofs.Ytjndoihnpnmbjaa.Flow
set_option linter.unusedVariables false
set_option linter.unusedSimpArgs false

set_option maxHeartbeats 4000000 in
theorem turns_nat (w : World) (X0 : Option Addr) (d0 : Nat) (l0 : List Int) (h0 : (Kd.int .u8).C w X0 l0.length l0) (e0 : l0.length ≤ d0) (hb : Bytes l0) (kat kby : Int) (q y : Nat) (hq : Int.tmod (IntKind.u64.wrap kat) ((4 + l0.length : Nat) : Int) = (q : Int)) (hql : q < 4 + l0.length) (hy : Int.tmod (IntKind.u64.wrap kby) 255 = (y : Int)) (hyl : y < 255) (p : Nat) (hp : p = 4 + q) :
    Calls Try.prog 8 #[.slice X0 l0.length d0, .int .i64 kat, .int .i64 kby] w fun e w' => e = .returned (.bool true) ∧ Below w.heap.size w w' := by
  refine calls_flow Try.func8 rfl 84 rfl (Nat.le_of_ble_eq_true rfl) [(0, .slice X0 l0.length d0), (1, .int .i64 kat), (2, .int .i64 kby)] ?_ ?_
  · intro t v h; exact args_look rfl t v h
  refine w_seq ?_
  refine w_region ?_
  refine rw_val (v := .bool false) (w' := w) rfl rfl rfl rfl rfl ?_
  refine rw_end ?_
  refine w_seq ?_
  refine w_seq ?_
  refine w_region ?_
  refine rw_call rfl rfl rfl rfl (f := 11) (args := #[]) (by simp [go_sem, sEv, sLook, nbeq, i64_w, -List.length_flatten]) (alive_calls w) ?_
  rintro e_ w1 ⟨rfl, hb2⟩
  refine ⟨_, rfl, ?_⟩
  have hs_w1 := hb2.size
  refine rw_val (v := .bool false) (w' := w1) rfl rfl rfl rfl (by simp [go_sem, sEv, sLook, nbeq, i64_w, -List.length_flatten]) ?_
  refine rw_end ?_
  refine w_cond_f rfl rfl rfl ?_
  refine w_skip ?_
  refine w_seq ?_
  refine w_seq ?_
  refine w_region ?_
  refine rw_val (v := .slice X0 l0.length d0) (w' := w1) rfl rfl rfl rfl rfl ?_
  refine rw_val (v := .int .i64 (l0.length : Int)) (w' := w1) rfl rfl rfl rfl (by simp [go_sem, sEv, sLook, nbeq, i64_w, -List.length_flatten]) ?_
  refine rw_val (v := .bool (decide (2000 < (l0.length : Int)))) (w' := w1) rfl rfl rfl rfl (by simp [go_sem, sEv, sLook, nbeq, i64_w, -List.length_flatten]) ?_
  refine rw_end ?_
  refine w_cond rfl rfl (fun cB => ?_) (fun cB => ?_)
  · refine w_seq ?_
    refine w_region ?_
    refine rw_val (v := .bool true) (w' := w1) rfl rfl rfl rfl rfl ?_
    refine rw_end ?_
    refine w_ret (post_ret1 rfl rfl ?_)
    exact ⟨rfl, hb2⟩
  · refine w_skip ?_
    refine w_seq ?_
    refine w_region ?_
    refine rw_val (v := .slice X0 l0.length d0) (w' := w1) rfl rfl rfl rfl rfl ?_
    refine rw_new (cs := #[.slice X0 l0.length d0]) (t := 22) (fun g => .slice (some ⟨g, 0, none⟩) 1 1) rfl rfl rfl rfl (by kernel_rfl) ?_
    intro g3 w4 hg8 hz7 hb5 hk6
    have hs_w4 := hb5.size
    have hP9 : (Kd.slice 5 (Kd.int .u8)).C w4 (some ⟨g3, 0, none⟩) [l0].length [l0] := rows1 hk6 e0 (Kd.C_below h0 (chain hb2 hb5))
    have l0_ := of_decide_eq_false cB
    have hF_ := frameB_len l0 (by omega)
    have hFb_ := frameB_bytes l0 hb
    refine rw_call rfl rfl rfl rfl (f := 19) (args := #[.slice (some ⟨g3, 0, none⟩) 1 1]) (by simp [go_sem, sEv, sLook, nbeq, i64_w, -List.length_flatten]) (wrap_one w4 _ 1 l0 (Kd.C_below hP9 (Below.refl _ _)) (by omega) (by omega)) ?_
    rintro e_ w13 ⟨A10, n11, c12, rfl, hO14, hB15⟩
    refine ⟨_, rfl, ?_⟩
    have hs_w13 := hB15.size
    have hL16 : Own .u8 5 w13 w.heap.size w4.heap.size A10 n11 c12 (frameB l0) := Own.lower hO14 (by omega)
    refine rw_val (v := .tuple #[.slice A10 n11 c12, errW none]) (w' := w13) rfl rfl rfl rfl rfl ?_
    refine rw_val (v := .slice A10 n11 c12) (w' := w13) rfl rfl rfl rfl (by simp [go_sem, sEv, sLook, nbeq, i64_w, -List.length_flatten]) ?_
    refine rw_val (v := errW none) (w' := w13) rfl rfl rfl rfl (by simp [go_sem, sEv, sLook, nbeq, i64_w, -List.length_flatten]) ?_
    have hn_ := hL16.len
    refine rw_val (v := .slice A10 n11 c12) (w' := w13) rfl rfl rfl rfl rfl ?_
    refine rw_val (v := errW none) (w' := w13) rfl rfl rfl rfl rfl ?_
    refine rw_end ?_
    refine w_weaken (G' := [(1, .int .i64 kat), (2, .int .i64 kby), (6, .bool false), (7, .slice A10 n11 c12), (8, errW none)]) ⟨rfl, rfl, rfl, rfl, rfl, trivial⟩ ?_
    refine w_seq ?_
    refine w_seq ?_
    refine w_region ?_
    refine rw_val (v := errW none) (w' := w13) rfl rfl rfl rfl rfl ?_
    refine rw_val (v := .bool false) (w' := w13) rfl rfl rfl rfl (run_as (guard_errW_neq _ none _)) ?_
    refine rw_end ?_
    refine w_cond_f rfl rfl rfl ?_
    refine w_skip ?_
    refine w_seq ?_
    refine w_seq ?_
    refine w_region ?_
    refine rw_val (v := .slice A10 n11 c12) (w' := w13) rfl rfl rfl rfl rfl ?_
    refine rw_val (v := .int .i64 ((frameB l0).length : Int)) (w' := w13) rfl rfl rfl rfl (by simp [go_sem, sEv, sLook, nbeq, i64_w, -List.length_flatten]; omega) ?_
    refine rw_val (v := .int .i64 0) (w' := w13) rfl rfl rfl rfl rfl ?_
    refine rw_end ?_
    refine w_block ?_
    refine w_loop (fun m_ G W_ => ∃ i : Nat, i + m_ = (frameB l0).length ∧ Below w13.heap.size w13 W_ ∧ G = [(1, .int .i64 kat), (2, .int .i64 kby), (7, .slice A10 n11 c12), (27, .int .i64 ((frameB l0).length : Int)), (28, .int .i64 (i : Int))]) (frameB l0).length [(1, .int .i64 kat), (2, .int .i64 kby), (7, .slice A10 n11 c12), (27, .int .i64 ((frameB l0).length : Int)), (28, .int .i64 0)] ⟨0, by omega, Below.refl _ _, rfl⟩ ⟨rfl, rfl, rfl, rfl, rfl, trivial⟩ ?_
    rintro m_ G w_ ⟨i, him, hBw_, rfl⟩
    have hs_w_ := hBw_.size
    refine w_seq ?_
    refine w_region ?_
    refine rw_val (v := .bool (decide ((i : Int) < ((frameB l0).length : Int)))) (w' := w_) rfl rfl rfl rfl (by simp [go_sem, sEv, sLook, nbeq, i64_w, -List.length_flatten]) ?_
    refine rw_end ?_
    refine w_seq ?_
    refine w_cond rfl rfl (fun cL => ?_) (fun cL => ?_)
    · refine w_skip ?_
      refine w_seq ?_
      refine w_block ?_
      refine w_seq ?_
      refine w_region ?_
      refine rw_val (v := .int .i64 (i : Int)) (w' := w_) rfl rfl rfl rfl rfl ?_
      refine rw_val (v := .int .i64 (i : Int)) (w' := w_) rfl rfl rfl rfl rfl ?_
      refine rw_end ?_
      refine w_seq ?_
      refine w_seq ?_
      refine w_region ?_
      refine rw_val (v := .int .i64 (i : Int)) (w' := w_) rfl rfl rfl rfl rfl ?_
      refine rw_val (v := .bool (decide (40 < (i : Int)))) (w' := w_) rfl rfl rfl rfl (by simp [go_sem, sEv, sLook, nbeq, i64_w, -List.length_flatten]) ?_
      refine rw_val (v := .bool (decide (40 < (i : Int)))) (w' := w_) rfl rfl rfl rfl rfl ?_
      rcases bcase (decide (40 < (i : Int))) with c17 | c17
      · refine rw_off (c := decide (40 < (i : Int))) rfl rfl rfl (by first | (rw [c17]; rfl) | simp [c17]) rfl rfl ?_
        refine rw_off (c := decide (40 < (i : Int))) rfl rfl rfl (by first | (rw [c17]; rfl) | simp [c17]) rfl rfl ?_
        refine rw_off (c := decide (40 < (i : Int))) rfl rfl rfl (by first | (rw [c17]; rfl) | simp [c17]) rfl rfl ?_
        refine rw_off (c := decide (40 < (i : Int))) rfl rfl rfl (by first | (rw [c17]; rfl) | simp [c17]) rfl rfl ?_
        refine rw_off (c := decide (40 < (i : Int))) rfl rfl rfl (by first | (rw [c17]; rfl) | simp [c17]) rfl rfl ?_
        refine rw_val (v := .bool false) (w' := w_) rfl rfl rfl rfl (by first | (simp [go_sem, sEv, sLook, nbeq, i64_w, -List.length_flatten, c17]; done) | (simp [go_sem, sEv, sLook, nbeq, i64_w, -List.length_flatten] <;> omega) | (simp [go_sem, sEv, sLook, nbeq, i64_w, -List.length_flatten]; intro h_; exact absurd (by omega) h_) | (rw [c17])) ?_
        refine rw_end ?_
        refine w_weaken (G' := [(1, .int .i64 kat), (2, .int .i64 kby), (7, .slice A10 n11 c12), (9, .int .i64 (i : Int)), (27, .int .i64 ((frameB l0).length : Int)), (28, .int .i64 (i : Int)), (39, .bool false)]) ⟨rfl, rfl, rfl, rfl, rfl, rfl, rfl, trivial⟩ ?_
        refine w_cond_f rfl rfl rfl ?_
        refine w_skip ?_
        refine w_seq ?_
        refine w_region ?_
        refine rw_val (v := .slice A10 n11 c12) (w' := w_) rfl rfl rfl rfl rfl ?_
        refine rw_val (v := .int .i64 (i : Int)) (w' := w_) rfl rfl rfl rfl rfl ?_
        have hP18 := (to_C (Own.C hL16) i (by omega))
        have hc19 : ((frameB l0).take i).length ≤ c12 := by have q_ := hL16.cap; have q2_ : n11 = (frameB l0).length := hL16.len; simp only [List.length_take, List.length_drop]; omega
        refine rw_val (v := .slice A10 (((frameB l0).take i).length) c12) (w' := w_) rfl rfl rfl rfl (run_as (run_to (e := 5) (by kernel_rfl) (fun _ => by kernel_rfl) i _ (by first | rfl | (simp; done) | omega) hL16.len (by omega) hL16.cap _)) ?_
        have lt_ := of_decide_eq_true cL
        refine rw_call rfl rfl rfl rfl (f := 26) (args := #[.slice A10 (((frameB l0).take i).length) c12]) (by simp [go_sem, sEv, sLook, nbeq, i64_w, -List.length_flatten]) (split_zero w_ _ _ ((frameB l0).take i) (Kd.C_below hP18 hBw_) hc19 (hFb_.take _) (by simp only [List.length_take]; omega) (whole_cut l0 (by omega) i (by omega))) ?_
        rintro e_ w20 ⟨rfl, hb21⟩
        refine ⟨_, rfl, ?_⟩
        have hs_w20 := hb21.size
        refine rw_val (v := .tuple #[.slice none 0 0, .int .i64 0]) (w' := w20) rfl rfl rfl rfl rfl ?_
        refine rw_val (v := .slice none 0 0) (w' := w20) rfl rfl rfl rfl (by simp [go_sem, sEv, sLook, nbeq, i64_w, -List.length_flatten]) ?_
        refine rw_val (v := .int .i64 0) (w' := w20) rfl rfl rfl rfl (by simp [go_sem, sEv, sLook, nbeq, i64_w, -List.length_flatten]) ?_
        refine rw_val (v := .slice none 0 0) (w' := w20) rfl rfl rfl rfl rfl ?_
        refine rw_val (v := .int .i64 0) (w' := w20) rfl rfl rfl rfl rfl ?_
        refine rw_end ?_
        refine w_weaken (G' := [(1, .int .i64 kat), (2, .int .i64 kby), (7, .slice A10 n11 c12), (10, .slice none 0 0), (11, .int .i64 0), (27, .int .i64 ((frameB l0).length : Int)), (28, .int .i64 (i : Int))]) ⟨rfl, rfl, rfl, rfl, rfl, rfl, rfl, trivial⟩ ?_
        refine w_seq ?_
        refine w_region ?_
        refine rw_val (v := .slice none 0 0) (w' := w20) rfl rfl rfl rfl rfl ?_
        refine rw_val (v := .int .i64 0) (w' := w20) rfl rfl rfl rfl (by simp [go_sem, sEv, sLook, nbeq, i64_w, -List.length_flatten]) ?_
        refine rw_val (v := .bool false) (w' := w20) rfl rfl rfl rfl (by simp [go_sem, sEv, sLook, nbeq, i64_w, -List.length_flatten]) ?_
        refine rw_val (v := .bool false) (w' := w20) rfl rfl rfl rfl rfl ?_
        refine rw_on (c := false) rfl rfl rfl rfl ?_
        refine rw_val (v := .int .i64 0) (w' := w20) rfl rfl rfl rfl rfl ?_
        refine rw_on (c := false) rfl rfl rfl rfl ?_
        refine rw_val (v := .bool false) (w' := w20) rfl rfl rfl rfl (by simp [go_sem, sEv, sLook, nbeq, i64_w, -List.length_flatten]) ?_
        refine rw_val (v := .bool false) (w' := w20) rfl rfl rfl rfl (by simp [go_sem, sEv, sLook, nbeq, i64_w, -List.length_flatten]) ?_
        refine rw_end ?_
        refine w_weaken (G' := [(1, .int .i64 kat), (2, .int .i64 kby), (7, .slice A10 n11 c12), (27, .int .i64 ((frameB l0).length : Int)), (28, .int .i64 (i : Int)), (53, .bool false)]) ⟨rfl, rfl, rfl, rfl, rfl, rfl, trivial⟩ ?_
        refine w_cond_f rfl rfl rfl ?_
        refine w_skip ?_
        refine w_blk ?_
        refine w_region ?_
        refine rw_val (v := .int .i64 ((i + 1 : Nat) : Int)) (w' := w20) rfl rfl rfl rfl (by simp [go_sem, sEv, sLook, nbeq, i64_w, -List.length_flatten]; have l_ := of_decide_eq_true cL; exact wrap_id (by omega) (by omega)) ?_
        refine rw_val (v := .int .i64 ((i + 1 : Nat) : Int)) (w' := w20) rfl rfl rfl rfl rfl ?_
        refine rw_end ?_
        have l_ := of_decide_eq_true cL
        exact w_back (m_ - 1) [(1, .int .i64 kat), (2, .int .i64 kby), (7, .slice A10 n11 c12), (27, .int .i64 ((frameB l0).length : Int)), (28, .int .i64 ((i + 1 : Nat) : Int))] (by omega) ⟨rfl, rfl, rfl, rfl, rfl, trivial⟩ ⟨i + 1, by omega, (chain hBw_ hb21), rfl⟩
      · refine rw_on (c := decide (40 < (i : Int))) rfl rfl rfl (by first | (rw [c17]; rfl) | simp [c17]) ?_
        refine rw_val (v := .int .i64 (i : Int)) (w' := w_) rfl rfl rfl rfl rfl ?_
        refine rw_on (c := decide (40 < (i : Int))) rfl rfl rfl (by first | (rw [c17]; rfl) | simp [c17]) ?_
        refine rw_val (v := .slice A10 n11 c12) (w' := w_) rfl rfl rfl rfl rfl ?_
        refine rw_on (c := decide (40 < (i : Int))) rfl rfl rfl (by first | (rw [c17]; rfl) | simp [c17]) ?_
        refine rw_val (v := .int .i64 ((frameB l0).length : Int)) (w' := w_) rfl rfl rfl rfl (by simp [go_sem, sEv, sLook, nbeq, i64_w, -List.length_flatten]; omega) ?_
        refine rw_on (c := decide (40 < (i : Int))) rfl rfl rfl (by first | (rw [c17]; rfl) | simp [c17]) ?_
        refine rw_val (v := .int .i64 (((frameB l0).length : Int) - 40)) (w' := w_) rfl rfl rfl rfl (by simp [go_sem, sEv, sLook, nbeq, i64_w, -List.length_flatten]; exact wrap_id (by omega) (by omega)) ?_
        refine rw_on (c := decide (40 < (i : Int))) rfl rfl rfl (by first | (rw [c17]; rfl) | simp [c17]) ?_
        refine rw_val (v := .bool (decide ((i : Int) < (((frameB l0).length : Int) - 40)))) (w' := w_) rfl rfl rfl rfl (by simp [go_sem, sEv, sLook, nbeq, i64_w, -List.length_flatten]) ?_
        refine rw_val (v := .bool (decide ((i : Int) < (((frameB l0).length : Int) - 40)))) (w' := w_) rfl rfl rfl rfl (by first | (simp [go_sem, sEv, sLook, nbeq, i64_w, -List.length_flatten, c17]; done) | (simp [go_sem, sEv, sLook, nbeq, i64_w, -List.length_flatten] <;> omega) | (simp [go_sem, sEv, sLook, nbeq, i64_w, -List.length_flatten]; intro h_; exact absurd (by omega) h_) | (rw [c17])) ?_
        refine rw_end ?_
        refine w_weaken (G' := [(1, .int .i64 kat), (2, .int .i64 kby), (7, .slice A10 n11 c12), (9, .int .i64 (i : Int)), (27, .int .i64 ((frameB l0).length : Int)), (28, .int .i64 (i : Int)), (39, .bool (decide ((i : Int) < (((frameB l0).length : Int) - 40))))]) ⟨rfl, rfl, rfl, rfl, rfl, rfl, rfl, trivial⟩ ?_
        refine w_cond rfl rfl (fun c22 => ?_) (fun c22 => ?_)
        · refine w_exit rfl ?_
          refine w_region ?_
          refine rw_val (v := .int .i64 ((i + 1 : Nat) : Int)) (w' := w_) rfl rfl rfl rfl (by simp [go_sem, sEv, sLook, nbeq, i64_w, -List.length_flatten]; have l_ := of_decide_eq_true cL; exact wrap_id (by omega) (by omega)) ?_
          refine rw_val (v := .int .i64 ((i + 1 : Nat) : Int)) (w' := w_) rfl rfl rfl rfl rfl ?_
          refine rw_end ?_
          have l_ := of_decide_eq_true cL
          exact w_back (m_ - 1) [(1, .int .i64 kat), (2, .int .i64 kby), (7, .slice A10 n11 c12), (27, .int .i64 ((frameB l0).length : Int)), (28, .int .i64 ((i + 1 : Nat) : Int))] (by omega) ⟨rfl, rfl, rfl, rfl, rfl, trivial⟩ ⟨i + 1, by omega, hBw_, rfl⟩
        · refine w_skip ?_
          refine w_seq ?_
          refine w_region ?_
          refine rw_val (v := .slice A10 n11 c12) (w' := w_) rfl rfl rfl rfl rfl ?_
          refine rw_val (v := .int .i64 (i : Int)) (w' := w_) rfl rfl rfl rfl rfl ?_
          have hP23 := (to_C (Own.C hL16) i (by omega))
          have hc24 : ((frameB l0).take i).length ≤ c12 := by have q_ := hL16.cap; have q2_ : n11 = (frameB l0).length := hL16.len; simp only [List.length_take, List.length_drop]; omega
          refine rw_val (v := .slice A10 (((frameB l0).take i).length) c12) (w' := w_) rfl rfl rfl rfl (run_as (run_to (e := 5) (by kernel_rfl) (fun _ => by kernel_rfl) i _ (by first | rfl | (simp; done) | omega) hL16.len (by omega) hL16.cap _)) ?_
          have lt_ := of_decide_eq_true cL
          refine rw_call rfl rfl rfl rfl (f := 26) (args := #[.slice A10 (((frameB l0).take i).length) c12]) (by simp [go_sem, sEv, sLook, nbeq, i64_w, -List.length_flatten]) (split_zero w_ _ _ ((frameB l0).take i) (Kd.C_below hP23 hBw_) hc24 (hFb_.take _) (by simp only [List.length_take]; omega) (whole_cut l0 (by omega) i (by omega))) ?_
          rintro e_ w25 ⟨rfl, hb26⟩
          refine ⟨_, rfl, ?_⟩
          have hs_w25 := hb26.size
          refine rw_val (v := .tuple #[.slice none 0 0, .int .i64 0]) (w' := w25) rfl rfl rfl rfl rfl ?_
          refine rw_val (v := .slice none 0 0) (w' := w25) rfl rfl rfl rfl (by simp [go_sem, sEv, sLook, nbeq, i64_w, -List.length_flatten]) ?_
          refine rw_val (v := .int .i64 0) (w' := w25) rfl rfl rfl rfl (by simp [go_sem, sEv, sLook, nbeq, i64_w, -List.length_flatten]) ?_
          refine rw_val (v := .slice none 0 0) (w' := w25) rfl rfl rfl rfl rfl ?_
          refine rw_val (v := .int .i64 0) (w' := w25) rfl rfl rfl rfl rfl ?_
          refine rw_end ?_
          refine w_weaken (G' := [(1, .int .i64 kat), (2, .int .i64 kby), (7, .slice A10 n11 c12), (10, .slice none 0 0), (11, .int .i64 0), (27, .int .i64 ((frameB l0).length : Int)), (28, .int .i64 (i : Int))]) ⟨rfl, rfl, rfl, rfl, rfl, rfl, rfl, trivial⟩ ?_
          refine w_seq ?_
          refine w_region ?_
          refine rw_val (v := .slice none 0 0) (w' := w25) rfl rfl rfl rfl rfl ?_
          refine rw_val (v := .int .i64 0) (w' := w25) rfl rfl rfl rfl (by simp [go_sem, sEv, sLook, nbeq, i64_w, -List.length_flatten]) ?_
          refine rw_val (v := .bool false) (w' := w25) rfl rfl rfl rfl (by simp [go_sem, sEv, sLook, nbeq, i64_w, -List.length_flatten]) ?_
          refine rw_val (v := .bool false) (w' := w25) rfl rfl rfl rfl rfl ?_
          refine rw_on (c := false) rfl rfl rfl rfl ?_
          refine rw_val (v := .int .i64 0) (w' := w25) rfl rfl rfl rfl rfl ?_
          refine rw_on (c := false) rfl rfl rfl rfl ?_
          refine rw_val (v := .bool false) (w' := w25) rfl rfl rfl rfl (by simp [go_sem, sEv, sLook, nbeq, i64_w, -List.length_flatten]) ?_
          refine rw_val (v := .bool false) (w' := w25) rfl rfl rfl rfl (by simp [go_sem, sEv, sLook, nbeq, i64_w, -List.length_flatten]) ?_
          refine rw_end ?_
          refine w_weaken (G' := [(1, .int .i64 kat), (2, .int .i64 kby), (7, .slice A10 n11 c12), (27, .int .i64 ((frameB l0).length : Int)), (28, .int .i64 (i : Int)), (53, .bool false)]) ⟨rfl, rfl, rfl, rfl, rfl, rfl, trivial⟩ ?_
          refine w_cond_f rfl rfl rfl ?_
          refine w_skip ?_
          refine w_blk ?_
          refine w_region ?_
          refine rw_val (v := .int .i64 ((i + 1 : Nat) : Int)) (w' := w25) rfl rfl rfl rfl (by simp [go_sem, sEv, sLook, nbeq, i64_w, -List.length_flatten]; have l_ := of_decide_eq_true cL; exact wrap_id (by omega) (by omega)) ?_
          refine rw_val (v := .int .i64 ((i + 1 : Nat) : Int)) (w' := w25) rfl rfl rfl rfl rfl ?_
          refine rw_end ?_
          have l_ := of_decide_eq_true cL
          exact w_back (m_ - 1) [(1, .int .i64 kat), (2, .int .i64 kby), (7, .slice A10 n11 c12), (27, .int .i64 ((frameB l0).length : Int)), (28, .int .i64 ((i + 1 : Nat) : Int))] (by omega) ⟨rfl, rfl, rfl, rfl, rfl, trivial⟩ ⟨i + 1, by omega, (chain hBw_ hb26), rfl⟩
    · refine w_exit rfl ?_
      refine w_seq ?_
      refine w_region ?_
      refine rw_val (v := .int .i64 kat) (w' := w_) rfl rfl rfl rfl rfl ?_
      refine rw_val (v := .int .u64 (IntKind.u64.wrap (kat))) (w' := w_) rfl rfl rfl rfl (by simp [go_sem, sEv, sLook, nbeq, i64_w, -List.length_flatten, Try.underlying3, Try.underlying51]) ?_
      refine rw_val (v := .slice A10 n11 c12) (w' := w_) rfl rfl rfl rfl rfl ?_
      refine rw_val (v := .int .i64 ((frameB l0).length : Int)) (w' := w_) rfl rfl rfl rfl (by simp [go_sem, sEv, sLook, nbeq, i64_w, -List.length_flatten]; omega) ?_
      refine rw_val (v := .int .i64 (((frameB l0).length - 4 : Nat) : Int)) (w' := w_) rfl rfl rfl rfl (by simp [go_sem, sEv, sLook, nbeq, i64_w, -List.length_flatten]; rw [wrap_id (by omega) (by omega)]; omega) ?_
      refine rw_val (v := .int .u64 (((frameB l0).length - 4 : Nat) : Int)) (w' := w_) rfl rfl rfl rfl (by simp [go_sem, sEv, sLook, nbeq, i64_w, -List.length_flatten]; rw [u64_wrap]; omega) ?_
      refine rw_val (v := .int .u64 (q : Int)) (w' := w_) rfl rfl rfl rfl (by simp [go_sem, sEv, sLook, nbeq, i64_w, -List.length_flatten]; have e_ : (((frameB l0).length - 4 : Nat) : Int) = ((4 + l0.length : Nat) : Int) := (by rw [hF_]; congr 1; omega); rw [e_, if_neg (by omega), hq]) ?_
      refine rw_val (v := .int .i64 (q : Int)) (w' := w_) rfl rfl rfl rfl (by simp [go_sem, sEv, sLook, nbeq, i64_w, -List.length_flatten]; exact wrap_id (by omega) (by omega)) ?_
      refine rw_val (v := .int .i64 (p : Int)) (w' := w_) rfl rfl rfl rfl (by simp [go_sem, sEv, sLook, nbeq, i64_w, -List.length_flatten]; rw [hp]; rw [wrap_id (by omega) (by omega)]; omega) ?_
      refine rw_val (v := .int .i64 (p : Int)) (w' := w_) rfl rfl rfl rfl rfl ?_
      refine rw_end ?_
      refine w_weaken (G' := [(2, .int .i64 kby), (7, .slice A10 n11 c12), (12, .int .i64 (p : Int))]) ⟨rfl, rfl, rfl, trivial⟩ ?_
      refine w_seq ?_
      refine w_region ?_
      refine rw_val (v := .slice A10 n11 c12) (w' := w_) rfl rfl rfl rfl rfl ?_
      refine rw_val (v := .int .i64 (p : Int)) (w' := w_) rfl rfl rfl rfl rfl ?_
      have hOw_ := (hL16.on hBw_)
      obtain ⟨gB, capB, cur, hv_, hgB_, hbB_, hlc_, hsz_, hN_⟩ := row_block hOw_ (fun h_ => by have h9_ := congrArg List.length h_; rw [hF_] at h9_; simp only [List.length_nil] at h9_; omega)
      injection hv_ with hA_ hnn_ hcc_
      subst hA_
      have hcell_ := hbB_.cellv (i := p) (v := .int .u8 ((frameB l0).getD p 0)) (hN_ p (by omega))
      have hxx_ : (frameB l0).getD p 0 = (frameB l0)[p]'(by omega) := by rw [List.getD_eq_getElem?_getD, List.getElem?_eq_getElem (by omega)]; rfl
      rw [hxx_] at hcell_
      have hfro_ := hbB_.frozen p
      have hx_ := hFb_ _ (List.getElem_mem (show p < (frameB l0).length by omega))
      have hy_ : 0 < ((1 + y : Nat) : Int) ∧ ((1 + y : Nat) : Int) < 256 := by omega
      have hlF_ : ((frameB l0).set p (Go.bits .xor .u8 ((frameB l0)[p]'(by omega)) ((1 + y : Nat) : Int))).length = (frameB l0).length := List.length_set
      refine rw_val (v := .pointer (some ⟨gB, p, none⟩)) (w' := w_) rfl rfl rfl rfl (by simp [go_sem, sEv, sLook, nbeq, i64_w, -List.length_flatten, Try.underlying22, add_plain]; omega) ?_
      refine rw_val (v := .int .u8 ((frameB l0)[p]'(by omega))) (w' := w_) rfl rfl rfl rfl (by simp [go_sem, sEv, sLook, nbeq, i64_w, -List.length_flatten, hcell_]) ?_
      refine rw_val (v := .int .i64 kby) (w' := w_) rfl rfl rfl rfl rfl ?_
      refine rw_val (v := .int .u64 (IntKind.u64.wrap (kby))) (w' := w_) rfl rfl rfl rfl (by simp [go_sem, sEv, sLook, nbeq, i64_w, -List.length_flatten, Try.underlying3, Try.underlying51]) ?_
      refine rw_val (v := .int .u64 (y : Int)) (w' := w_) rfl rfl rfl rfl (by simp [go_sem, sEv, sLook, nbeq, i64_w, -List.length_flatten]; exact hy) ?_
      refine rw_val (v := .int .u64 ((1 + y : Nat) : Int)) (w' := w_) rfl rfl rfl rfl (by simp [go_sem, sEv, sLook, nbeq, i64_w, -List.length_flatten]; rw [u64_wrap]; omega) ?_
      refine rw_val (v := .int .u8 ((1 + y : Nat) : Int)) (w' := w_) rfl rfl rfl rfl (by simp [go_sem, sEv, sLook, nbeq, i64_w, -List.length_flatten]; rw [u8_wrap _ (by omega) (by omega)]) ?_
      refine rw_val (v := .int .u8 (Go.bits .xor .u8 ((frameB l0)[p]'(by omega)) ((1 + y : Nat) : Int))) (w' := w_) rfl rfl rfl rfl (by simp [go_sem, sEv, sLook, nbeq, i64_w, -List.length_flatten]) ?_
      refine rw_val (v := .pointer (some ⟨gB, p, none⟩)) (w' := w_) rfl rfl rfl rfl (by simp [go_sem, sEv, sLook, nbeq, i64_w, -List.length_flatten, Try.underlying22, add_plain]; omega) ?_
      refine rw_store (g := gB) (i := p) (l := [.int .u8 (Go.bits .xor .u8 ((frameB l0)[p]'(by omega)) ((1 + y : Nat) : Int))]) (cs' := cur.setIfInBounds p (.int .u8 (Go.bits .xor .u8 ((frameB l0)[p]'(by omega)) ((1 + y : Nat) : Int)))) rfl rfl rfl hbB_ rfl (by simp [go_sem, sEv, sLook, nbeq, i64_w, -List.length_flatten, putCells, hcell_, hfro_]) ?_
      intro w27 hk28 hb29
      have hC8_ := Nums.C (hN_.set (by omega) p (Go.bits .xor .u8 ((frameB l0)[p]'(by omega)) ((1 + y : Nat) : Int))) hb29 (by rw [hlF_]; omega)
      have hs_w27 := hk28.size
      refine rw_end ?_
      refine w_weaken (G' := [(7, .slice (some ⟨gB, 0, none⟩) n11 c12)]) ⟨rfl, trivial⟩ ?_
      refine w_seq ?_
      refine w_region ?_
      have hnl_ : n11 = ((frameB l0).set p (Go.bits .xor .u8 ((frameB l0)[p]'(by omega)) ((1 + y : Nat) : Int))).length := by rw [hlF_]; exact hn_
      refine rw_val (v := .slice (some ⟨gB, 0, none⟩) (((frameB l0).set p (Go.bits .xor .u8 ((frameB l0)[p]'(by omega)) ((1 + y : Nat) : Int))).length) c12) (w' := w27) rfl rfl rfl rfl (by simp [go_sem, sEv, sLook, nbeq, i64_w, -List.length_flatten]; omega) ?_
      refine rw_call rfl rfl rfl rfl (f := 24) (args := #[.slice (some ⟨gB, 0, none⟩) (((frameB l0).set p (Go.bits .xor .u8 ((frameB l0)[p]'(by omega)) ((1 + y : Nat) : Int))).length) c12]) (by simp [go_sem, sEv, sLook, nbeq, i64_w, -List.length_flatten]) (unwrap_zero w27 (some ⟨gB, 0, none⟩) c12 _ hC8_ (by rw [hlF_]; have q_ := hL16.cap; omega) (hFb_.set _ (xor_other _ _ hx_ hy_).1) (by rw [hlF_]; omega) (whole_turned l0 hb (by omega) p (by omega) (by omega) _ (xor_other _ _ hx_ hy_).1 (xor_other _ _ hx_ hy_).2)) ?_
      rintro e_ w30 ⟨rfl, hb31⟩
      refine ⟨_, rfl, ?_⟩
      have hs_w30 := hb31.size
      refine rw_val (v := .tuple #[.slice none 0 0, .slice none 0 0, errW (some 3)]) (w' := w30) rfl rfl rfl rfl rfl ?_
      refine rw_val (v := .slice none 0 0) (w' := w30) rfl rfl rfl rfl (by simp [go_sem, sEv, sLook, nbeq, i64_w, -List.length_flatten]) ?_
      refine rw_val (v := .slice none 0 0) (w' := w30) rfl rfl rfl rfl (by simp [go_sem, sEv, sLook, nbeq, i64_w, -List.length_flatten]) ?_
      refine rw_val (v := errW (some 3)) (w' := w30) rfl rfl rfl rfl (by simp [go_sem, sEv, sLook, nbeq, i64_w, -List.length_flatten]) ?_
      refine rw_val (v := errW (some 3)) (w' := w30) rfl rfl rfl rfl rfl ?_
      refine rw_end ?_
      refine w_weaken (G' := [(8, errW (some 3))]) ⟨rfl, trivial⟩ ?_
      refine w_seq ?_
      refine w_region ?_
      refine rw_val (v := errW (some 3)) (w' := w30) rfl rfl rfl rfl rfl ?_
      refine rw_val (v := errW (some 3)) (w' := w30) rfl rfl rfl rfl (by simp [go_sem, sEv, sLook, nbeq, i64_w, -List.length_flatten, errW_some]) ?_
      refine rw_val (v := .bool true) (w' := w30) rfl rfl rfl rfl (run_bool (run_as (guard_errW_eql _ _ (some 3) 3 _)) (by decide)) ?_
      refine rw_val (v := .bool true) (w' := w30) rfl rfl rfl rfl rfl ?_
      refine rw_end ?_
      refine w_weaken (G' := [(6, .bool true)]) ⟨rfl, trivial⟩ ?_
      refine w_ret (post_ret1 rfl rfl ?_)
      exact ⟨rfl, (chain (hk28.below (by omega) (chain (chain (chain hb2 hb5) hB15) hBw_)) hb31)⟩

theorem mod_nat (k : Int) (m : Nat) (hm : 0 < m) : ∃ n : Nat, Int.tmod (IntKind.u64.wrap k) (m : Int) = (n : Int) ∧ n < m := by
  have h0 : 0 ≤ IntKind.u64.wrap k := by rw [u64_wrap]; omega
  have h1 := Int.emod_nonneg (IntKind.u64.wrap k) (show (m : Int) ≠ 0 by omega)
  have h2 := Int.emod_lt_of_pos (IntKind.u64.wrap k) (show 0 < (m : Int) by omega)
  rw [Int.tmod_eq_emod_of_nonneg h0]
  obtain ⟨n, hn⟩ := Int.eq_ofNat_of_zero_le h1
  exact ⟨n, hn, by omega⟩
theorem walkTurns (w : World) (X0 : Option Addr) (d0 : Nat) (l0 : List Int) (h0 : (Kd.int .u8).C w X0 l0.length l0) (e0 : l0.length ≤ d0) (hb : ∀ c ∈ l0, (Lit.int .u8 c).wf = true) (kat kby : Int) : Calls Try.prog 8 #[.slice X0 l0.length d0, .int .i64 kat, .int .i64 kby] w fun e w' => e = .returned (.bool true) ∧ Below w.heap.size w w' := by
  obtain ⟨q, h1, h2⟩ := mod_nat kat (4 + l0.length) (by omega)
  obtain ⟨y, h3, h4⟩ := mod_nat kby 255 (by omega)
  exact turns_nat w X0 d0 l0 h0 e0 (fun c hc => by have h := Go.bounds_u8 (hb c hc); omega) kat kby q y h1 h2 h3 h4 _ rfl
end Go.Proofs.Ytjndoihnpnmbjaa.PFrameSums
