/- Which frames bytes begin with: the walk. -/
import Derived.Test.YtjndoihnpnmbjaaFrUnw
namespace Go.Proofs.Ytjndoihnpnmbjaa.PFrameSums
open Go.RowKit Go.Proofs.YtjndoihnpnmbjaaW.PrintWords Go.Proofs.YtjndoihnpnmbjaaW.PrintLast Go.Proofs.YtjndoihnpnmbjaaW.PrintMore
open Go.Proofs.Ytjndoihnpnmbjaa.Flow
set_option linter.unusedVariables false
set_option linter.unusedSimpArgs false


theorem apart_S {w0 w : World} (hB : Below w0.heap.size w0 w) {ok : Nat → Prop} {A : Option Addr} {c : Nat} {xss : List (List Int)} (h : Kd.S (Kd.slice 5 (Kd.int .u8)) 22 w w0.heap.size ok (.slice A xss.length c) xss) (hp : 0 < xss.length) (hm : xss.length ≤ 1000) (hn : ∀ x ∈ xss, x.length ≤ 1000000) :
    Calls Try.prog 18 #[.slice A xss.length c] w fun e w' => e = .returned (.bool true) ∧ Below w0.heap.size w0 w' := by
  obtain ⟨ob, c', sh, hv, hob, hL, hobn, hd, hLR, hge⟩ := S_shapes h hp
  injection hv with h1 h2 h3
  subst h1 h3
  refine apart_calls w0 w hB ob xss.length c sh (fun i => xss.getD i []) hL hob hobn hd hLR hge hm (fun i hi => ?_)
  rw [← (hLR i hi).1, List.getD_eq_getElem?_getD, List.getElem?_eq_getElem hi]
  exact hn _ (List.getElem_mem hi)
theorem splitR_len {b : List Int} {l : List (List Int)} {n : Nat} (h : SplitR b l n) : ∀ x ∈ l, x.length ≤ b.length := by
  induction h with
  | none => intro x hx; cases hx
  | some b l n h0 _ ih =>
    intro x hx
    rcases List.mem_cons.1 hx with rfl | hx
    · rw [List.length_drop, List.length_take]; omega
    · have h := ih x hx
      rw [List.length_drop] at h
      omega
theorem splitR_few {b : List Int} {l : List (List Int)} {n : Nat} (h : SplitR b l n) : l.length ≤ b.length := by
  induction h with
  | none => simp
  | some b l n h0 _ ih =>
    have h1 := wholeP_le b
    rw [List.length_drop] at ih
    rw [List.length_cons]
    omega
set_option maxHeartbeats 4000000 in
theorem walkSplits (w : World) (X0 : Option Addr) (d0 : Nat) (l0 : List Int) (h0 : (Kd.int .u8).C w X0 l0.length l0) (e0 : l0.length ≤ d0) (hb0 : Bytes l0) :
    Calls Try.prog 6 #[.slice X0 l0.length d0] w fun e w' => e = .returned (.bool true) ∧ Below w.heap.size w w' := by
  refine calls_flow Try.func6 rfl 69 rfl (Nat.le_of_ble_eq_true rfl) [(0, .slice X0 l0.length d0)] ?_ ?_
  · intro t v h; exact args_look rfl t v h
  refine w_seq ?_
  refine w_region ?_
  refine rw_val (v := .bool false) (w' := w) rfl rfl rfl rfl rfl ?_
  refine rw_end ?_
  refine w_seq ?_
  refine w_seq ?_
  refine w_region ?_
  refine rw_call rfl rfl rfl rfl (f := 11) (args := #[]) (by simp [go_sem, sEv, sLook, nbeq, i64_w, -List.length_flatten]) (alive_calls w) ?_
  rintro e_ w1 ⟨rfl, hb2⟩
  refine ⟨_, rfl, ?_⟩
  have hs_w1 := hb2.size
  refine rw_val (v := .bool false) (w' := w1) rfl rfl rfl rfl (by simp [go_sem, sEv, sLook, nbeq, i64_w, -List.length_flatten]) ?_
  refine rw_end ?_
  refine w_cond_f rfl rfl rfl ?_
  refine w_skip ?_
  refine w_seq ?_
  refine w_seq ?_
  refine w_region ?_
  refine rw_val (v := .slice X0 l0.length d0) (w' := w1) rfl rfl rfl rfl rfl ?_
  refine rw_new (cs := #[.slice X0 l0.length d0]) (t := 22) (fun g => .slice (some ⟨g, 0, none⟩) 1 1) rfl rfl rfl rfl (by kernel_rfl) ?_
  intro g3 w4 hg8 hz7 hb5 hk6
  have hs_w4 := hb5.size
  have hP9 : (Kd.slice 5 (Kd.int .u8)).C w4 (some ⟨g3, 0, none⟩) [l0].length [l0] := rows1 hk6 e0 (Kd.C_below h0 (chain hb2 hb5))
  refine rw_call rfl rfl rfl rfl (f := 12) (args := #[.slice (some ⟨g3, 0, none⟩) 1 1]) (by simp [go_sem, sEv, sLook, nbeq, i64_w, -List.length_flatten]) (estuarylaw04_large.calls 10 _ 1 [l0] _ w4 (Kd.C_below hP9 (Below.refl _ _)) (by simp) (large_f _ (by simp) _ (by simp))) ?_
  rintro e_ w10 ⟨rfl, hb11_⟩
  refine ⟨_, rfl, ?_⟩
  have hb11 := hb11_.below
  have hs_w10 := hb11.size
  refine rw_end ?_
  refine w_cond rfl rfl (fun cG => ?_) (fun cG => ?_)
  · refine w_seq ?_
    refine w_region ?_
    refine rw_val (v := .bool true) (w' := w10) rfl rfl rfl rfl rfl ?_
    refine rw_end ?_
    refine w_ret (post_ret1 rfl rfl ?_)
    exact ⟨rfl, (chain (chain hb2 hb5) hb11)⟩
  · refine w_skip ?_
    refine w_seq ?_
    refine w_region ?_
    refine rw_val (v := .slice X0 l0.length d0) (w' := w10) rfl rfl rfl rfl rfl ?_
    obtain ⟨_, hlg2_, _⟩ := lg_no cG
    have hl0_ : l0.length ≤ 65536 := by simpa using hlg2_
    refine rw_call rfl rfl rfl rfl (f := 13) (args := #[.slice X0 l0.length d0]) (by simp [go_sem, sEv, sLook, nbeq, i64_w, -List.length_flatten]) (copy_calls w10 X0 d0 l0 (Kd.C_below h0 (chain (chain hb2 hb5) hb11)) e0 (by omega)) ?_
    rintro e_ w14 ⟨A12, c13, rfl, hO15, hB16⟩
    refine ⟨_, rfl, ?_⟩
    have hs_w14 := hB16.size
    have hL17 : Own .u8 5 w14 w.heap.size w.heap.size A12 (l0.length + 2) c13 (l0 ++ [165, 90]) := (Own.lower hO15 (by omega)).mono (by omega)
    have hocap_ := hL17.cap
    refine rw_val (v := .slice A12 l0.length c13) (w' := w14) rfl rfl rfl rfl rfl ?_
    refine rw_end ?_
    refine w_seq ?_
    refine w_region ?_
    refine rw_val (v := .slice A12 l0.length c13) (w' := w14) rfl rfl rfl rfl rfl ?_
    refine rw_call rfl rfl rfl rfl (f := 26) (args := #[.slice A12 l0.length c13]) (by simp [go_sem, sEv, sLook, nbeq, i64_w, -List.length_flatten]) (split_callsS w14 A12 c13 l0 (Kd.C_below (own_front hL17) (Below.refl _ _)) (by omega) hb0 (by omega)) ?_
    rintro e_ w22 ⟨out18, n19, A20, c21, rfl, hS23, hR24, hB25⟩
    refine ⟨_, rfl, ?_⟩
    have hfew_ := splitR_few hS23
    have hlen_ := splitR_len hS23
    have hs_w22 := hB25.size
    refine rw_val (v := .tuple #[.slice A20 out18.length c21, .int .i64 ((n19 : Nat) : Int)]) (w' := w22) rfl rfl rfl rfl rfl ?_
    refine rw_val (v := .slice A20 out18.length c21) (w' := w22) rfl rfl rfl rfl (by simp [go_sem, sEv, sLook, nbeq, i64_w, -List.length_flatten]) ?_
    refine rw_val (v := .int .i64 ((n19 : Nat) : Int)) (w' := w22) rfl rfl rfl rfl (by simp [go_sem, sEv, sLook, nbeq, i64_w, -List.length_flatten]) ?_
    refine rw_val (v := .slice A20 out18.length c21) (w' := w22) rfl rfl rfl rfl rfl ?_
    refine rw_val (v := .int .i64 ((n19 : Nat) : Int)) (w' := w22) rfl rfl rfl rfl rfl ?_
    refine rw_end ?_
    refine w_weaken (G' := [(0, .slice X0 l0.length d0), (2, .bool false), (3, .slice A12 l0.length c13), (4, .slice A20 out18.length c21), (5, .int .i64 ((n19 : Nat) : Int))]) ⟨rfl, rfl, rfl, rfl, rfl, trivial⟩ ?_
    refine w_seq ?_
    refine w_region ?_
    refine rw_val (v := .slice X0 l0.length d0) (w' := w22) rfl rfl rfl rfl rfl ?_
    refine rw_call rfl rfl rfl rfl (f := 27) (args := #[.slice X0 l0.length d0]) (by simp [go_sem, sEv, sLook, nbeq, i64_w, -List.length_flatten]) (refsplit_calls w22 X0 d0 l0 (Kd.C_below h0 (chain (chain (chain (chain hb2 hb5) hb11) hB16) hB25)) e0 hb0 (by omega)) ?_
    rintro e_ w30 ⟨out26, n27, A28, c29, rfl, hS31, hR32, hB33⟩
    refine ⟨_, rfl, ?_⟩
    obtain ⟨q1_, q2_⟩ := splitR_one hS23 hS31
    subst q1_ q2_
    have hs_w30 := hB33.size
    refine rw_val (v := .tuple #[.slice A28 out18.length c29, .int .i64 ((n19 : Nat) : Int)]) (w' := w30) rfl rfl rfl rfl rfl ?_
    refine rw_val (v := .slice A28 out18.length c29) (w' := w30) rfl rfl rfl rfl (by simp [go_sem, sEv, sLook, nbeq, i64_w, -List.length_flatten]) ?_
    refine rw_val (v := .int .i64 ((n19 : Nat) : Int)) (w' := w30) rfl rfl rfl rfl (by simp [go_sem, sEv, sLook, nbeq, i64_w, -List.length_flatten]) ?_
    refine rw_val (v := .slice A28 out18.length c29) (w' := w30) rfl rfl rfl rfl rfl ?_
    refine rw_val (v := .int .i64 ((n19 : Nat) : Int)) (w' := w30) rfl rfl rfl rfl rfl ?_
    refine rw_end ?_
    refine w_weaken (G' := [(0, .slice X0 l0.length d0), (2, .bool false), (3, .slice A12 l0.length c13), (4, .slice A20 out18.length c21), (5, .int .i64 ((n19 : Nat) : Int)), (6, .slice A28 out18.length c29), (7, .int .i64 ((n19 : Nat) : Int))]) ⟨rfl, rfl, rfl, rfl, rfl, rfl, rfl, trivial⟩ ?_
    refine w_seq ?_
    refine w_seq ?_
    refine w_region ?_
    refine rw_val (v := .int .i64 ((n19 : Nat) : Int)) (w' := w30) rfl rfl rfl rfl rfl ?_
    refine rw_val (v := .int .i64 ((n19 : Nat) : Int)) (w' := w30) rfl rfl rfl rfl rfl ?_
    refine rw_val (v := .bool false) (w' := w30) rfl rfl rfl rfl (by simp [go_sem, sEv, sLook, nbeq, i64_w, -List.length_flatten]) ?_
    refine rw_val (v := .bool false) (w' := w30) rfl rfl rfl rfl rfl ?_
    refine rw_on (c := false) rfl rfl rfl rfl ?_
    refine rw_val (v := .slice A20 out18.length c21) (w' := w30) rfl rfl rfl rfl rfl ?_
    refine rw_on (c := false) rfl rfl rfl rfl ?_
    refine rw_val (v := .int .i64 ((out18.length : Nat) : Int)) (w' := w30) rfl rfl rfl rfl (by simp [go_sem, sEv, sLook, nbeq, i64_w, -List.length_flatten]) ?_
    refine rw_on (c := false) rfl rfl rfl rfl ?_
    refine rw_val (v := .slice A28 out18.length c29) (w' := w30) rfl rfl rfl rfl rfl ?_
    refine rw_on (c := false) rfl rfl rfl rfl ?_
    refine rw_val (v := .int .i64 ((out18.length : Nat) : Int)) (w' := w30) rfl rfl rfl rfl (by simp [go_sem, sEv, sLook, nbeq, i64_w, -List.length_flatten]) ?_
    refine rw_on (c := false) rfl rfl rfl rfl ?_
    refine rw_val (v := .bool false) (w' := w30) rfl rfl rfl rfl (by simp [go_sem, sEv, sLook, nbeq, i64_w, -List.length_flatten]) ?_
    refine rw_val (v := .bool false) (w' := w30) rfl rfl rfl rfl (by simp [go_sem, sEv, sLook, nbeq, i64_w, -List.length_flatten]) ?_
    refine rw_val (v := .bool false) (w' := w30) rfl rfl rfl rfl rfl ?_
    refine rw_on (c := false) rfl rfl rfl rfl ?_
    refine rw_val (v := .slice A12 l0.length c13) (w' := w30) rfl rfl rfl rfl rfl ?_
    refine rw_on (c := false) rfl rfl rfl rfl ?_
    refine rw_val (v := .slice X0 l0.length d0) (w' := w30) rfl rfl rfl rfl rfl ?_
    refine rw_on (c := false) rfl rfl rfl rfl ?_
    refine rw_call rfl rfl rfl rfl (f := 16) (args := #[.slice A12 l0.length c13, .slice X0 l0.length d0]) (by simp [go_sem, sEv, sLook, nbeq, i64_w, -List.length_flatten]) (kept_calls w30 _ _ _ _ l0 (Kd.C_below (show (Kd.int .u8).C _ _ (l0.length + 2) (l0 ++ [165, 90]) by have h_ := Own.C hL17; simpa using h_) (chain hB25 hB33)) (Kd.C_below (own_front hL17) (chain hB25 hB33)) (by omega) (by omega) (Kd.C_below h0 (chain (chain (chain (chain (chain hb2 hb5) hb11) hB16) hB25) hB33)) e0 (by omega)) ?_
    rintro e_ w34 ⟨rfl, hb35⟩
    refine ⟨_, rfl, ?_⟩
    have hs_w34 := hb35.size
    refine rw_on (c := false) rfl rfl rfl rfl ?_
    refine rw_val (v := .bool false) (w' := w34) rfl rfl rfl rfl (by simp [go_sem, sEv, sLook, nbeq, i64_w, -List.length_flatten]) ?_
    refine rw_val (v := .bool false) (w' := w34) rfl rfl rfl rfl (by simp [go_sem, sEv, sLook, nbeq, i64_w, -List.length_flatten]) ?_
    refine rw_end ?_
    refine w_weaken (G' := [(2, .bool false), (3, .slice A12 l0.length c13), (4, .slice A20 out18.length c21), (6, .slice A28 out18.length c29), (41, .bool false)]) ⟨rfl, rfl, rfl, rfl, rfl, trivial⟩ ?_
    refine w_cond_f rfl rfl rfl ?_
    refine w_skip ?_
    refine w_seq ?_
    refine w_seq ?_
    refine w_region ?_
    refine rw_val (v := .slice A20 out18.length c21) (w' := w34) rfl rfl rfl rfl rfl ?_
    refine rw_val (v := .int .i64 ((out18.length : Nat) : Int)) (w' := w34) rfl rfl rfl rfl (by simp [go_sem, sEv, sLook, nbeq, i64_w, -List.length_flatten]) ?_
    refine rw_val (v := .int .i64 0) (w' := w34) rfl rfl rfl rfl rfl ?_
    refine rw_end ?_
    refine w_block ?_
    have hRC1_ := (Kd.S_reads' hR24).2.2
    have hRC2_ := (Kd.S_reads' hR32).2.2
    refine w_loop (fun m_ G W_ => ∃ j : Nat, j + m_ = out18.length ∧ Below w34.heap.size w34 W_ ∧ G = [(3, .slice A12 l0.length c13), (4, .slice A20 out18.length c21), (6, .slice A28 out18.length c29), (43, .int .i64 ((out18.length : Nat) : Int)), (44, .int .i64 (j : Int))]) out18.length [(3, .slice A12 l0.length c13), (4, .slice A20 out18.length c21), (6, .slice A28 out18.length c29), (43, .int .i64 ((out18.length : Nat) : Int)), (44, .int .i64 0)] ⟨0, by omega, Below.refl _ _, rfl⟩ ⟨rfl, rfl, rfl, rfl, rfl, trivial⟩ ?_
    rintro m_ G w_4 ⟨j, hjm, hB4_, rfl⟩
    have hs_w_4 := hB4_.size
    refine w_seq ?_
    refine w_region ?_
    refine rw_val (v := .bool (decide ((j : Int) < ((out18.length : Nat) : Int)))) (w' := w_4) rfl rfl rfl rfl (by simp [go_sem, sEv, sLook, nbeq, i64_w, -List.length_flatten]) ?_
    refine rw_end ?_
    refine w_seq ?_
    refine w_cond rfl rfl (fun cJ => ?_) (fun cJ => ?_)
    · refine w_skip ?_
      refine w_seq ?_
      refine w_block ?_
      refine w_seq ?_
      refine w_region ?_
      have l_ := of_decide_eq_true cJ
      obtain ⟨ad8, A8, c8, hA8_, hcell8_, hle8_, hC8_⟩ := at_L2 hRC1_ (j : Int) (by omega) (by omega)
      rw [show ((j : Int)).toNat = j by omega] at hcell8_
      obtain ⟨ad9, A9, c9, hA9_, hcell9_, hle9_, hC9_⟩ := at_L2 hRC2_ (j : Int) (by omega) (by omega)
      rw [show ((j : Int)).toNat = j by omega] at hcell9_
      subst hA8_ hA9_
      refine rw_val (v := .int .i64 (j : Int)) (w' := w_4) rfl rfl rfl rfl rfl ?_
      refine rw_val (v := .int .i64 (j : Int)) (w' := w_4) rfl rfl rfl rfl rfl ?_
      refine rw_end ?_
      refine w_seq ?_
      refine w_drawk (M := [0, 0, 3, 7, 15, 0, 0, 96, 224, 480, 1023]) (ss := [Is (.slice (some ad8) out18.length c21), Is (.int .i64 (j : Int)), Is (.pointer (some (ad8.add j))), Is (.slice A8 ((rd_L2 out18 (j : Int)).length) c8), Is (.string (strOfNums (rd_L2 out18 (j : Int)))), Is (.slice (some ad9) out18.length c29), Is (.int .i64 (j : Int)), Is (.pointer (some (ad9.add j))), Is (.slice A9 ((rd_L2 out18 (j : Int)).length) c9), Is (.string (strOfNums (rd_L2 out18 (j : Int))))]) 10 rfl (by decide +kernel) ?_
      refine t_is (.slice (some ad8) out18.length c21) rfl rfl rfl rfl (fun W_ hW_ F_ => rfl) ?_
      refine t_is (.int .i64 (j : Int)) rfl rfl rfl rfl (fun W_ hW_ F_ => rfl) ?_
      refine t_is (.pointer (some (ad8.add j))) rfl rfl rfl rfl (fun W_ hW_ F_ => (by simp [go_sem, sEv, sLook, nbeq, i64_w, -List.length_flatten, Try.underlying32]; omega)) ?_
      refine t_is (.slice A8 ((rd_L2 out18 (j : Int)).length) c8) rfl rfl rfl rfl (fun W_ hW_ F_ => (by have e_ := cellOn hcell8_ (chain (chain (chain hB33 hb35) hB4_) (below_of_drew hW_)); simp [go_sem, sEv, sLook, nbeq, i64_w, -List.length_flatten, e_])) ?_
      refine t_is (.string (strOfNums (rd_L2 out18 (j : Int)))) rfl rfl rfl rfl (fun W_ hW_ F_ => run_as (run_str_of (P := Try.prog) (e := 5) (by kernel_rfl) (by kernel_rfl) (by kernel_rfl) (Kd.C_below hC8_ (chain (chain (chain hB33 hb35) hB4_) (below_of_drew hW_))))) ?_
      refine t_is (.slice (some ad9) out18.length c29) rfl rfl rfl rfl (fun W_ hW_ F_ => rfl) ?_
      refine t_is (.int .i64 (j : Int)) rfl rfl rfl rfl (fun W_ hW_ F_ => rfl) ?_
      refine t_is (.pointer (some (ad9.add j))) rfl rfl rfl rfl (fun W_ hW_ F_ => (by simp [go_sem, sEv, sLook, nbeq, i64_w, -List.length_flatten, Try.underlying32]; omega)) ?_
      refine t_is (.slice A9 ((rd_L2 out18 (j : Int)).length) c9) rfl rfl rfl rfl (fun W_ hW_ F_ => (by have e_ := cellOn hcell9_ (chain (chain hb35 hB4_) (below_of_drew hW_)); simp [go_sem, sEv, sLook, nbeq, i64_w, -List.length_flatten, e_])) ?_
      refine t_is (.string (strOfNums (rd_L2 out18 (j : Int)))) rfl rfl rfl rfl (fun W_ hW_ F_ => run_as (run_str_of (P := Try.prog) (e := 5) (by kernel_rfl) (by kernel_rfl) (by kernel_rfl) (Kd.C_below hC9_ (chain (chain hb35 hB4_) (below_of_drew hW_))))) ?_
      refine t_tail ?_
      intro w36 hb37_ F38
      have hb37 := below_of_drew hb37_
      have hs_w36 := hb37.size
      refine rw_val (v := .bool false) (w' := w36) rfl rfl rfl rfl (run_bool (run_as (run_str_neq 9 _ _ _)) (by simp)) ?_
      refine rw_end ?_
      refine w_weaken (G' := [(3, .slice A12 l0.length c13), (4, .slice (some ad8) out18.length c21), (6, .slice (some ad9) out18.length c29), (43, .int .i64 ((out18.length : Nat) : Int)), (44, .int .i64 (j : Int)), (57, .bool false)]) ⟨rfl, rfl, rfl, rfl, rfl, rfl, trivial⟩ ?_
      refine w_cond_f rfl rfl rfl ?_
      refine w_skip ?_
      refine w_blk ?_
      refine w_region ?_
      refine rw_val (v := .int .i64 ((j + 1 : Nat) : Int)) (w' := w36) rfl rfl rfl rfl (by simp [go_sem, sEv, sLook, nbeq, i64_w, -List.length_flatten]; have l_ := of_decide_eq_true cJ; exact wrap_id (by omega) (by omega)) ?_
      refine rw_val (v := .int .i64 ((j + 1 : Nat) : Int)) (w' := w36) rfl rfl rfl rfl rfl ?_
      refine rw_end ?_
      have l_ := of_decide_eq_true cJ
      exact w_back (m_ - 1) [(3, .slice A12 l0.length c13), (4, .slice (some ad8) out18.length c21), (6, .slice (some ad9) out18.length c29), (43, .int .i64 ((out18.length : Nat) : Int)), (44, .int .i64 ((j + 1 : Nat) : Int))] (by omega) ⟨rfl, rfl, rfl, rfl, rfl, trivial⟩ ⟨j + 1, by omega, (chain hB4_ hb37), rfl⟩
    · refine w_exit rfl ?_
      refine w_seq ?_
      refine w_region ?_
      refine rw_val (v := .slice A20 out18.length c21) (w' := w_4) rfl rfl rfl rfl rfl ?_
      refine rw_val (v := .int .i64 ((out18.length : Nat) : Int)) (w' := w_4) rfl rfl rfl rfl (by simp [go_sem, sEv, sLook, nbeq, i64_w, -List.length_flatten]) ?_
      refine rw_val (v := .bool (decide (200 < ((out18.length : Nat) : Int)))) (w' := w_4) rfl rfl rfl rfl (by simp [go_sem, sEv, sLook, nbeq, i64_w, -List.length_flatten]) ?_
      refine rw_val (v := .bool (decide (200 < ((out18.length : Nat) : Int)))) (w' := w_4) rfl rfl rfl rfl rfl ?_
      rcases bcase (decide (200 < ((out18.length : Nat) : Int))) with cB | cB
      · refine rw_on (c := decide (200 < ((out18.length : Nat) : Int))) rfl rfl rfl (by first | (rw [cB]; rfl) | simp [cB]) ?_
        refine rw_val (v := .slice A20 out18.length c21) (w' := w_4) rfl rfl rfl rfl rfl ?_
        refine rw_on (c := decide (200 < ((out18.length : Nat) : Int))) rfl rfl rfl (by first | (rw [cB]; rfl) | simp [cB]) ?_
        refine rw_val (v := .slice A12 l0.length c13) (w' := w_4) rfl rfl rfl rfl rfl ?_
        refine rw_on (c := decide (200 < ((out18.length : Nat) : Int))) rfl rfl rfl (by first | (rw [cB]; rfl) | simp [cB]) ?_
        refine rw_new (cs := #[.slice A12 l0.length c13]) (t := 22) (fun g => .slice (some ⟨g, 0, none⟩) 1 1) rfl rfl rfl rfl (by kernel_rfl) ?_
        intro g39 w40 hg44 hz43 hb41 hk42
        have hs_w40 := hb41.size
        refine rw_on (c := decide (200 < ((out18.length : Nat) : Int))) rfl rfl rfl (by first | (rw [cB]; rfl) | simp [cB]) ?_
        have few_ := of_decide_eq_false cB
        have hSn_ := Kd.S_below (Kd.S_lower (base' := w.heap.size) hR24 (by omega)) (chain (chain (chain hB33 hb35) hB4_) hb41)
        have hXn_ := Kd.R_below (Kd.R_mono (Kd.R_bound (own_head (Own.on hL17 (Below.refl _ _)))) (fun q hq => (⟨hq.2.1, hq.2.2.1⟩ : w.heap.size ≤ q ∧ q < w14.heap.size))) (chain (chain (chain (chain hB25 hB33) hb35) hB4_) hb41)
        refine rw_append_oneS .u8 5 w.heap.size rfl rfl rfl (.tmp 63) (.tmp 65) rfl rfl 32 22 24 rfl (by kernel_rfl) info22S (by decide) rfl rfl hSn_ (fun q hq => by omega) hk42 hXn_ (fun q hq => ⟨hq.1, fun h => by have := hq.2; omega⟩) (chain (chain (chain (chain (chain (chain (chain (chain hb2 hb5) hb11) hB16) hB25) hB33) hb35) hB4_) hb41) (by omega) (by omega) ?_
        intro A45 c46 w47 hR48 hB49 hG50
        have hs_w47 := hB49.size
        have hgs_w47 := hG50.size
        refine rw_on (c := decide (200 < ((out18.length : Nat) : Int))) rfl rfl rfl (by first | (rw [cB]; rfl) | simp [cB]) ?_
        have hal_ : ∀ x ∈ out18 ++ [l0], x.length ≤ 1000000 := fun x hx => by
          rcases List.mem_append.1 hx with hx | hx
          · have := hlen_ x hx; omega
          · rw [List.mem_singleton.1 hx]; omega
        refine rw_call rfl rfl rfl rfl (f := 18) (args := #[.slice A45 ((out18 ++ [l0]).length) c46]) (by simp [go_sem, sEv, sLook, nbeq, i64_w, -List.length_flatten]) (apart_S hB49 hR48 (by simp) (by rw [List.length_append, List.length_singleton]; omega) hal_) ?_
        rintro e_ w51 ⟨rfl, hB52⟩
        refine ⟨_, rfl, ?_⟩
        refine rw_val (v := .bool true) (w' := w51) rfl rfl rfl rfl (by first | (simp [go_sem, sEv, sLook, nbeq, i64_w, -List.length_flatten, cB]; done) | (simp [go_sem, sEv, sLook, nbeq, i64_w, -List.length_flatten] <;> omega) | (simp [go_sem, sEv, sLook, nbeq, i64_w, -List.length_flatten]; intro h_; exact absurd (by omega) h_) | (rw [cB]; simp [go_sem, sEv, sLook, nbeq, i64_w, -List.length_flatten]; done)) ?_
        refine rw_val (v := .bool true) (w' := w51) rfl rfl rfl rfl rfl ?_
        refine rw_end ?_
        refine w_weaken (G' := [(2, .bool true)]) ⟨rfl, trivial⟩ ?_
        refine w_ret (post_ret1 rfl rfl ?_)
        exact ⟨rfl, hB52⟩
      · refine rw_off (c := decide (200 < ((out18.length : Nat) : Int))) rfl rfl rfl (by first | (rw [cB]; rfl) | simp [cB]) rfl rfl ?_
        refine rw_off (c := decide (200 < ((out18.length : Nat) : Int))) rfl rfl rfl (by first | (rw [cB]; rfl) | simp [cB]) rfl rfl ?_
        refine rw_off (c := decide (200 < ((out18.length : Nat) : Int))) rfl rfl rfl (by first | (rw [cB]; rfl) | simp [cB]) rfl rfl ?_
        refine rw_off (c := decide (200 < ((out18.length : Nat) : Int))) rfl rfl rfl (by first | (rw [cB]; rfl) | simp [cB]) rfl rfl ?_
        refine rw_off (c := decide (200 < ((out18.length : Nat) : Int))) rfl rfl rfl (by first | (rw [cB]; rfl) | simp [cB]) rfl rfl ?_
        refine rw_val (v := .bool true) (w' := w_4) rfl rfl rfl rfl (by first | (simp [go_sem, sEv, sLook, nbeq, i64_w, -List.length_flatten, cB]; done) | (simp [go_sem, sEv, sLook, nbeq, i64_w, -List.length_flatten] <;> omega) | (simp [go_sem, sEv, sLook, nbeq, i64_w, -List.length_flatten]; intro h_; exact absurd (by omega) h_) | (rw [cB]; simp [go_sem, sEv, sLook, nbeq, i64_w, -List.length_flatten]; done)) ?_
        refine rw_val (v := .bool true) (w' := w_4) rfl rfl rfl rfl rfl ?_
        refine rw_end ?_
        refine w_weaken (G' := [(2, .bool true)]) ⟨rfl, trivial⟩ ?_
        refine w_ret (post_ret1 rfl rfl ?_)
        exact ⟨rfl, (chain (chain (chain (chain (chain (chain (chain hb2 hb5) hb11) hB16) hB25) hB33) hb35) hB4_)⟩
end Go.Proofs.Ytjndoihnpnmbjaa.PFrameSums
