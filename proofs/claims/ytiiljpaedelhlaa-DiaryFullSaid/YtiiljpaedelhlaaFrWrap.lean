/- Frames: the walks of Clone and Wrap. -/
import Derived.Test.YtiiljpaedelhlaaFrPlain
namespace Go.Proofs.Ytiiljpaedelhlaa.PDiaryPlays
open Go.RowKit Go.Proofs.YtiiljpaedelhlaaW.PrintWords Go.Proofs.YtiiljpaedelhlaaW.PrintLast Go.Proofs.YtiiljpaedelhlaaW.PrintMore
open Go.Proofs.Ytiiljpaedelhlaa.Flow
set_option linter.unusedVariables false
set_option linter.unusedSimpArgs false

set_option maxHeartbeats 4000000 in
theorem clone_calls (w : World) (A : Option Addr) (n c : Nat) (xs : List Int) (hC : (Kd.int .u8).C w A n xs) (hl : n ≤ 140737488355328) :
    Calls Try.prog 42 #[.slice A n c] w fun e w' => ∃ A' n' c', e = .returned (.slice A' n' c') ∧ Own .u8 5 w' w.heap.size w.heap.size A' n' c' xs ∧ Below w.heap.size w w' := by
  refine calls_flow Try.func42 rfl 8 rfl (Nat.le_of_ble_eq_true rfl) [(0, .slice A n c)] ?_ ?_
  · intro t v h; exact args_look rfl t v h
  refine w_seq ?_
  refine w_region ?_
  refine rw_val (v := .slice none 0 0) (w' := w) rfl rfl rfl rfl rfl ?_
  refine rw_end ?_
  refine w_seq ?_
  refine w_seq ?_
  refine w_region ?_
  refine rw_val (v := .slice A n c) (w' := w) rfl rfl rfl rfl rfl ?_
  refine rw_val (v := .bool A.isNone) (w' := w) rfl rfl rfl rfl (run_as (run_nil_eql (P := Try.prog) (e := 5) (by kernel_rfl) _ _ _ _)) ?_
  refine rw_end ?_
  refine w_cond rfl rfl (fun cN => ?_) (fun cN => ?_)
  · refine w_seq ?_
    refine w_region ?_
    refine rw_val (v := .slice none 0 0) (w' := w) rfl rfl rfl rfl rfl ?_
    refine rw_end ?_
    refine w_ret (post_ret1 rfl rfl ?_)
    have hn_ : xs = [] := by
      have h1_ := hC.1
      have h2_ := hC.2.2
      rcases n with _ | n
      · exact List.eq_nil_of_length_eq_zero h1_
      · obtain ⟨ad, h3_, _⟩ := h2_ (by omega)
        rw [h3_] at cN
        exact absurd cN (by simp)
    subst hn_
    exact ⟨_, _, _, rfl, Own.nil _ _ _ _ _, (Below.refl _ _)⟩
  · refine w_skip ?_
    refine w_seq ?_
    refine w_region ?_
    refine rw_new (cs := #[]) (t := 5) (fun g => .slice (some ⟨g, 0, none⟩) 0 0) rfl rfl rfl rfl (by kernel_rfl) ?_
    intro g1 w2 hg6 hz5 hb3 hk4
    have hs_w2 := hb3.size
    have hO7 : Own .u8 5 w2 w.heap.size g1 (some ⟨g1, 0, none⟩) 0 0 [] := own_blk w.heap.size hk4 (by omega) rfl (by simp) (by omega) (Nums.nil _ _)
    refine rw_val (v := .slice A n c) (w' := w2) rfl rfl rfl rfl rfl ?_
    refine rw_append_row .u8 w.heap.size rfl rfl rfl (.tmp 5) (.tmp 6) rfl rfl 32 5 1 rfl (by kernel_rfl) info5 (by decide) (b := g1) rfl rfl (by omega) (hO7.on (Below.refl _ _)) (Kd.C_below hC hb3) hb3 (by omega) (by simp; omega) ?_
    intro A8 n9 c10 w11 hn12 hO13 hB14 hG15
    have hs_w11 := hB14.size
    have hgs_w11 := hG15.size
    refine rw_val (v := .slice A8 n9 c10) (w' := w11) rfl rfl rfl rfl rfl ?_
    refine rw_end ?_
    refine w_weaken (G' := [(2, .slice A8 n9 c10)]) ⟨rfl, trivial⟩ ?_
    refine w_ret (post_ret1 rfl rfl ?_)
    exact ⟨_, _, _, rfl, by simpa using ((hO13.on (Below.refl _ _)).mono (by omega) : Own .u8 5 w11 w.heap.size w.heap.size _ _ _ _), hB14⟩
set_option maxHeartbeats 4000000 in
theorem wrap_calls (w : World) (A0 : Option Addr) (c0 : Nat) (ps : List (List Int)) (hP : (Kd.slice 5 (Kd.int .u8)).C w A0 ps.length ps) (hc0 : ps.length ≤ c0) (hn : ps.length ≤ 1000000) (hall : ∀ p ∈ ps, p.length ≤ 140737488355328) :
    Calls Try.prog 38 #[.slice A0 ps.length c0] w fun e w' => ∃ A' n' c', e = .returned (.tuple #[.slice A' n' c', errW (frameE ps.flatten)]) ∧ Own .u8 5 w' w.heap.size w.heap.size A' n' c' (frameB ps.flatten) ∧ Below w.heap.size w w' := by
  refine calls_flow Try.func38 rfl 46 rfl (Nat.le_of_ble_eq_true rfl) [(0, .slice A0 ps.length c0)] ?_ ?_
  · intro t v h; exact args_look rfl t v h
  refine w_seq ?_
  refine w_region ?_
  refine rw_val (v := .slice none 0 0) (w' := w) rfl rfl rfl rfl rfl ?_
  refine rw_val (v := .nilIface) (w' := w) rfl rfl rfl rfl rfl ?_
  refine rw_end ?_
  refine w_seq ?_
  refine w_region ?_
  refine rw_val (v := .int .i64 0) (w' := w) rfl rfl rfl rfl rfl ?_
  refine rw_end ?_
  refine w_seq ?_
  refine w_seq ?_
  refine w_region ?_
  refine rw_val (v := .slice A0 ps.length c0) (w' := w) rfl rfl rfl rfl rfl ?_
  refine rw_val (v := .int .i64 (ps.length : Int)) (w' := w) rfl rfl rfl rfl (by simp [go_sem, sEv, sLook, nbeq, i64_w, -List.length_flatten]) ?_
  refine rw_val (v := .int .i64 0) (w' := w) rfl rfl rfl rfl rfl ?_
  refine rw_end ?_
  refine w_block ?_
  refine w_loop (fun m G W_ => ∃ i : Nat, i + m = ps.length ∧ (ps.take i).flatten.length ≤ 16376 ∧ w = W_ ∧ G = [(0, .slice A0 ps.length c0), (2, .slice none 0 0), (3, .nilIface), (4, .int .i64 ((ps.take i).flatten.length : Int)), (10, .slice A0 ps.length c0), (11, .int .i64 (ps.length : Int)), (12, .int .i64 (i : Int))]) ps.length [(0, .slice A0 ps.length c0), (2, .slice none 0 0), (3, .nilIface), (4, .int .i64 0), (10, .slice A0 ps.length c0), (11, .int .i64 (ps.length : Int)), (12, .int .i64 0)] ⟨0, by omega, by simp, rfl, rfl⟩ ⟨rfl, rfl, rfl, rfl, rfl, rfl, rfl, trivial⟩ ?_
  rintro m G w_ ⟨i, him, hfl, rfl, rfl⟩
  refine w_seq ?_
  refine w_region ?_
  refine rw_val (v := .bool (decide ((i : Int) < (ps.length : Int)))) (w' := w) rfl rfl rfl rfl (by simp [go_sem, sEv, sLook, nbeq, i64_w, -List.length_flatten]) ?_
  refine rw_end ?_
  refine w_seq ?_
  refine w_cond rfl rfl (fun cL => ?_) (fun cL => ?_)
  · refine w_skip ?_
    refine w_seq ?_
    refine w_block ?_
    refine w_seq ?_
    refine w_region ?_
    have l_ := of_decide_eq_true cL
    obtain ⟨ad, A1, c1, hA_, hcell_, hle_, hC_⟩ := at_L1 (Kd.C_below hP (Below.refl _ _)) (i : Int) (by omega) (by omega)
    subst hA_
    rw [show ((i : Int)).toNat = i by omega] at hcell_
    have hpl_ := hall _ (rd_L1_mem ps i (by omega))
    have htl_ := take_len ps i (by omega)
    have hfl3_ := take_le ps (i + 1)
    refine rw_val (v := .pointer (some (ad.add i))) (w' := w) rfl rfl rfl rfl (by simp [go_sem, sEv, sLook, nbeq, i64_w, -List.length_flatten, Try.underlying22]; omega) ?_
    refine rw_val (v := .slice A1 ((rd_L1 ps (i : Int)).length) c1) (w' := w) rfl rfl rfl rfl (by simp [go_sem, sEv, sLook, nbeq, i64_w, -List.length_flatten, hcell_]) ?_
    refine rw_val (v := .slice A1 ((rd_L1 ps (i : Int)).length) c1) (w' := w) rfl rfl rfl rfl rfl ?_
    refine rw_end ?_
    refine w_seq ?_
    refine w_region ?_
    refine rw_val (v := .int .i64 ((ps.take i).flatten.length : Int)) (w' := w) rfl rfl rfl rfl rfl ?_
    refine rw_val (v := .slice A1 ((rd_L1 ps (i : Int)).length) c1) (w' := w) rfl rfl rfl rfl rfl ?_
    refine rw_val (v := .int .i64 ((rd_L1 ps (i : Int)).length : Int)) (w' := w) rfl rfl rfl rfl (by simp [go_sem, sEv, sLook, nbeq, i64_w, -List.length_flatten]) ?_
    refine rw_val (v := .int .i64 ((ps.take (i + 1)).flatten.length : Int)) (w' := w) rfl rfl rfl rfl (by simp [go_sem, sEv, sLook, nbeq, i64_w, -List.length_flatten]; rw [htl_, ← Int.natCast_add]; exact wrap_id (by omega) (by omega)) ?_
    refine rw_val (v := .int .i64 ((ps.take (i + 1)).flatten.length : Int)) (w' := w) rfl rfl rfl rfl rfl ?_
    refine rw_end ?_
    refine w_weaken (G' := [(0, .slice (some ad) ps.length c0), (2, .slice none 0 0), (3, .nilIface), (4, .int .i64 ((ps.take (i + 1)).flatten.length : Int)), (10, .slice (some ad) ps.length c0), (11, .int .i64 (ps.length : Int)), (12, .int .i64 (i : Int))]) ⟨rfl, rfl, rfl, rfl, rfl, rfl, rfl, trivial⟩ ?_
    refine w_seq ?_
    refine w_region ?_
    refine rw_val (v := .int .i64 ((ps.take (i + 1)).flatten.length : Int)) (w' := w) rfl rfl rfl rfl rfl ?_
    refine rw_val (v := .bool (decide (16376 < ((ps.take (i + 1)).flatten.length : Int)))) (w' := w) rfl rfl rfl rfl (by simp [go_sem, sEv, sLook, nbeq, i64_w, -List.length_flatten]) ?_
    refine rw_end ?_
    refine w_cond rfl rfl (fun cF => ?_) (fun cF => ?_)
    · refine w_seq ?_
      refine w_region ?_
      refine rw_val (v := errW (some 7)) (w' := w) rfl rfl rfl rfl (by simp [go_sem, sEv, sLook, nbeq, i64_w, -List.length_flatten, errW_some]) ?_
      refine rw_val (v := .slice none 0 0) (w' := w) rfl rfl rfl rfl rfl ?_
      refine rw_val (v := errW (some 7)) (w' := w) rfl rfl rfl rfl rfl ?_
      refine rw_end ?_
      refine w_ret (post_ret2 rfl rfl rfl ?_)
      have f_ := of_decide_eq_true cF
      have t_ := take_le ps (i + 1)
      have hf_ : 16376 < ps.flatten.length := by omega
      rw [frameB, frameE, if_pos hf_, if_pos hf_]
      exact ⟨_, _, _, rfl, Own.nil _ _ _ _ _, (Below.refl _ _)⟩
    · refine w_skip ?_
      refine w_blk ?_
      refine w_region ?_
      refine rw_val (v := .int .i64 ((i + 1 : Nat) : Int)) (w' := w) rfl rfl rfl rfl (by simp [go_sem, sEv, sLook, nbeq, i64_w, -List.length_flatten]; have l_ := of_decide_eq_true cL; exact wrap_id (by omega) (by omega)) ?_
      refine rw_val (v := .int .i64 ((i + 1 : Nat) : Int)) (w' := w) rfl rfl rfl rfl rfl ?_
      refine rw_end ?_
      have l_ := of_decide_eq_true cL
      have f_ := of_decide_eq_false cF
      exact w_back (m - 1) [(0, .slice (some ad) ps.length c0), (2, .slice none 0 0), (3, .nilIface), (4, .int .i64 ((ps.take (i + 1)).flatten.length : Int)), (10, .slice (some ad) ps.length c0), (11, .int .i64 (ps.length : Int)), (12, .int .i64 ((i + 1 : Nat) : Int))] (by omega) ⟨rfl, rfl, rfl, rfl, rfl, rfl, rfl, trivial⟩ ⟨i + 1, by omega, by omega, rfl, rfl⟩
  · refine w_exit rfl ?_
    refine w_seq ?_
    refine w_region ?_
    have l0_ := of_decide_eq_false cL
    obtain rfl : i = ps.length := by omega
    rw [List.take_length] at hfl
    rw [List.take_length]
    refine rw_val (v := .int .i64 (ps.flatten.length : Int)) (w' := w) rfl rfl rfl rfl rfl ?_
    refine rw_val (v := .int .i64 ((8 + ps.flatten.length : Nat) : Int)) (w' := w) rfl rfl rfl rfl (by simp [go_sem, sEv, sLook, nbeq, i64_w, -List.length_flatten]; rw [show (8 : Int) + (ps.flatten.length : Int) = ((8 + ps.flatten.length : Nat) : Int) by omega]; exact wrap_id (by omega) (by omega)) ?_
    obtain ⟨i5_, hi5_, hz5_⟩ := Option.map_eq_some_iff.1 info5
    simp only [Prod.mk.injEq] at hz5_
    have hmk_ := run_makeSlice (P := Try.prog) w 32 5 i5_ (.int .u8 0) (by kernel_rfl) hi5_ hz5_.1 .i64 .i64 0 ((8 + ps.flatten.length : Nat) : Int) (by omega) (by omega) (by rw [hz5_.2.1]; omega) (by rw [hz5_.2.2]; omega) (by omega)
    simp only [Int.toNat_zero, Int.toNat_natCast, hz5_.2.1, Nat.mul_one] at hmk_
    refine rw_new (cs := madeCells (Value.int .u8 0).cells (8 + ps.flatten.length)) (t := 5) (fun g => .slice (some ⟨g, 0, none⟩) 0 (8 + ps.flatten.length)) rfl rfl rfl rfl (run_as hmk_) ?_
    intro g1 w2 hg6 hz5 hb3 hk4
    have hs_w2 := hb3.size
    have hO7 : Own .u8 5 w2 w.heap.size g1 (some ⟨g1, 0, none⟩) 0 (8 + ps.flatten.length) [] := own_blk w.heap.size hk4 (by omega) (size_madeCells _ _) (by simp) (by omega) (Nums.nil _ _)
    refine rw_val (v := .int .i64 (ps.flatten.length : Int)) (w' := w2) rfl rfl rfl rfl rfl ?_
    refine rw_val (v := .int .u64 (ps.flatten.length : Int)) (w' := w2) rfl rfl rfl rfl (by simp [go_sem, sEv, sLook, nbeq, i64_w, -List.length_flatten]; rw [u64_wrap]; omega) ?_
    refine rw_call rfl rfl rfl rfl (f := 51) (args := #[.slice (some ⟨g1, 0, none⟩) 0 (8 + ps.flatten.length), .int .u64 (ps.flatten.length : Int), .int .i64 4]) (by simp [go_sem, sEv, sLook, nbeq, i64_w, -List.length_flatten]) (frame_low.calls 5 (fun q => w.heap.size ≤ q) _ [] (ps.flatten.length : Int) 4 _ w w2 hb3 (Own.mono (hO7.on (Below.refl _ _)) (by omega)) (low_f 5 _ _ 4 (by omega) (by omega) (by simp [lowl_len]))) ?_
    rintro e_ w10 ⟨_, rfl, hR11, hB12, hK13⟩
    refine ⟨_, rfl, ?_⟩
    have hs_w10 := hB12.size
    have hgs_w10 := hK13.1
    obtain ⟨A8, c9, rfl, hle15, hR16⟩ := R_shape hR11
    have hO14 : Own .u8 5 w10 w.heap.size w.heap.size A8 ([] ++ lowl (ps.flatten.length : Int) 4 0).length c9 ([] ++ lowl (ps.flatten.length : Int) 4 0) := Kd.R_mono hR16 (fun q hq => hq.elim id (fun h => by omega))
    refine rw_val (v := .slice A8 (([] ++ lowl (ps.flatten.length : Int) 4 0).length) c9) (w' := w10) rfl rfl rfl rfl rfl ?_
    refine rw_end ?_
    refine w_weaken (G' := [(0, .slice A0 ps.length c0), (2, .slice none 0 0), (3, .nilIface), (7, .slice A8 (([] ++ lowl (ps.flatten.length : Int) 4 0).length) c9)]) ⟨rfl, rfl, rfl, rfl, trivial⟩ ?_
    refine w_seq ?_
    refine w_region ?_
    refine rw_val (v := .slice A8 (([] ++ lowl (ps.flatten.length : Int) 4 0).length) c9) (w' := w10) rfl rfl rfl rfl rfl ?_
    refine rw_val (v := .slice A0 ps.length c0) (w' := w10) rfl rfl rfl rfl rfl ?_
    refine rw_call rfl rfl rfl rfl (f := 52) (args := #[.slice A0 ps.length c0]) (by simp [go_sem, sEv, sLook, nbeq, i64_w, -List.length_flatten]) (frame_Sum.calls (2 * ps.length + 1 + ps.flatten.length) A0 c0 ps _ w10 (Kd.C_below hP hB12) hc0 (sum_f ps (by omega) (fun p hp => by have := hall p hp; omega) _ (Nat.le_refl _))) ?_
    rintro e_ w17 ⟨rfl, hb18_⟩
    refine ⟨_, rfl, ?_⟩
    have hb18 := hb18_.below
    have hs_w17 := hb18.size
    refine rw_val (v := .int .u64 (fnv 2166136261 ps.flatten)) (w' := w17) rfl rfl rfl rfl (by simp [go_sem, sEv, sLook, nbeq, i64_w, -List.length_flatten]; rw [u64_wrap]; have := fnv_range ps.flatten 2166136261 (by omega); omega) ?_
    refine rw_call rfl rfl rfl rfl (f := 51) (args := #[.slice A8 (([] ++ lowl (ps.flatten.length : Int) 4 0).length) c9, .int .u64 (fnv 2166136261 ps.flatten), .int .i64 4]) (by simp [go_sem, sEv, sLook, nbeq, i64_w, -List.length_flatten]) (frame_low.calls 5 (fun q => w.heap.size ≤ q) _ ([] ++ lowl (ps.flatten.length : Int) 4 0) (fnv 2166136261 ps.flatten) 4 _ w w17 (chain hB12 hb18) (Own.mono (hO14.on hb18) (by omega)) (low_f 5 _ _ 4 (by omega) (by omega) (by simp [lowl_len]))) ?_
    rintro e_ w21 ⟨_, rfl, hR22, hB23, hK24⟩
    refine ⟨_, rfl, ?_⟩
    have hs_w21 := hB23.size
    have hgs_w21 := hK24.1
    obtain ⟨A19, c20, rfl, hle26, hR27⟩ := R_shape hR22
    have hO25 : Own .u8 5 w21 w.heap.size w.heap.size A19 (([] ++ lowl (ps.flatten.length : Int) 4 0) ++ lowl (fnv 2166136261 ps.flatten) 4 0).length c20 (([] ++ lowl (ps.flatten.length : Int) 4 0) ++ lowl (fnv 2166136261 ps.flatten) 4 0) := Kd.R_mono hR27 (fun q hq => hq.elim id (fun h => by omega))
    refine rw_val (v := .slice A19 ((([] ++ lowl (ps.flatten.length : Int) 4 0) ++ lowl (fnv 2166136261 ps.flatten) 4 0).length) c20) (w' := w21) rfl rfl rfl rfl rfl ?_
    refine rw_end ?_
    refine w_weaken (G' := [(0, .slice A0 ps.length c0), (2, .slice none 0 0), (3, .nilIface), (7, .slice A19 ((([] ++ lowl (ps.flatten.length : Int) 4 0) ++ lowl (fnv 2166136261 ps.flatten) 4 0).length) c20)]) ⟨rfl, rfl, rfl, rfl, trivial⟩ ?_
    refine w_seq ?_
    refine w_seq ?_
    refine w_region ?_
    refine rw_val (v := .slice A0 ps.length c0) (w' := w21) rfl rfl rfl rfl rfl ?_
    refine rw_val (v := .int .i64 (ps.length : Int)) (w' := w21) rfl rfl rfl rfl (by simp [go_sem, sEv, sLook, nbeq, i64_w, -List.length_flatten]) ?_
    refine rw_val (v := .int .i64 0) (w' := w21) rfl rfl rfl rfl rfl ?_
    refine rw_end ?_
    refine w_block ?_
    refine w_loop (fun m G W_ => ∃ (i : Nat) (A7 : Option Addr) (n7 c7 : Nat), i + m = ps.length ∧ Own .u8 5 W_ w.heap.size w.heap.size A7 n7 c7 ((([] ++ lowl (ps.flatten.length : Int) 4 0) ++ lowl (fnv 2166136261 ps.flatten) 4 0) ++ (ps.take i).flatten) ∧ Below w.heap.size w W_ ∧ G = [(7, .slice A7 n7 c7), (35, .slice A0 ps.length c0), (36, .int .i64 (ps.length : Int)), (37, .int .i64 (i : Int))]) ps.length [(7, .slice A19 ((([] ++ lowl (ps.flatten.length : Int) 4 0) ++ lowl (fnv 2166136261 ps.flatten) 4 0).length) c20), (35, .slice A0 ps.length c0), (36, .int .i64 (ps.length : Int)), (37, .int .i64 0)] ⟨0, _, _, _, by omega, by simpa using (hO25.on (Below.refl _ _)), hB23, rfl⟩ ⟨rfl, rfl, rfl, rfl, trivial⟩ ?_
    rintro m G w_ ⟨i, A7, n7, c7, him2, hO7, hB7, rfl⟩
    have hfl2_ := take_le ps i
    have hs_w_ := hB7.size
    refine w_seq ?_
    refine w_region ?_
    refine rw_val (v := .bool (decide ((i : Int) < (ps.length : Int)))) (w' := w_) rfl rfl rfl rfl (by simp [go_sem, sEv, sLook, nbeq, i64_w, -List.length_flatten]) ?_
    refine rw_end ?_
    refine w_seq ?_
    refine w_cond rfl rfl (fun cM => ?_) (fun cM => ?_)
    · refine w_skip ?_
      refine w_seq ?_
      refine w_block ?_
      refine w_seq ?_
      refine w_region ?_
      have l_ := of_decide_eq_true cM
      obtain ⟨ad, A1, c1, hA_, hcell_, hle_, hC_⟩ := at_L1 (Kd.C_below hP hB7) (i : Int) (by omega) (by omega)
      subst hA_
      rw [show ((i : Int)).toNat = i by omega] at hcell_
      have hpl_ := hall _ (rd_L1_mem ps i (by omega))
      have htl_ := take_len ps i (by omega)
      have hfl3_ := take_le ps (i + 1)
      refine rw_val (v := .pointer (some (ad.add i))) (w' := w_) rfl rfl rfl rfl (by simp [go_sem, sEv, sLook, nbeq, i64_w, -List.length_flatten, Try.underlying22]; omega) ?_
      refine rw_val (v := .slice A1 ((rd_L1 ps (i : Int)).length) c1) (w' := w_) rfl rfl rfl rfl (by simp [go_sem, sEv, sLook, nbeq, i64_w, -List.length_flatten, hcell_]) ?_
      refine rw_val (v := .slice A1 ((rd_L1 ps (i : Int)).length) c1) (w' := w_) rfl rfl rfl rfl rfl ?_
      refine rw_end ?_
      refine w_region ?_
      refine rw_val (v := .slice A7 n7 c7) (w' := w_) rfl rfl rfl rfl rfl ?_
      refine rw_val (v := .slice A1 ((rd_L1 ps (i : Int)).length) c1) (w' := w_) rfl rfl rfl rfl rfl ?_
      refine rw_append_row .u8 w.heap.size rfl rfl rfl (.tmp 41) (.tmp 42) rfl rfl 32 5 1 rfl (by kernel_rfl) info5 (by decide) (b := w.heap.size) rfl rfl (by omega) (hO7.on (Below.refl _ _)) (Kd.C_below hC_ (Below.refl _ _)) hB7 (by omega) (by simp only [List.length_append, lowl_len, List.length_nil]; omega) ?_
      intro A28 n29 c30 w31 hn32 hO33 hB34 hG35
      have hs_w31 := hB34.size
      have hgs_w31 := hG35.size
      refine rw_val (v := .slice A28 n29 c30) (w' := w31) rfl rfl rfl rfl rfl ?_
      refine rw_end ?_
      refine w_weaken (G' := [(7, .slice A28 n29 c30), (35, .slice (some ad) ps.length c0), (36, .int .i64 (ps.length : Int)), (37, .int .i64 (i : Int))]) ⟨rfl, rfl, rfl, rfl, trivial⟩ ?_
      refine w_blk ?_
      refine w_region ?_
      refine rw_val (v := .int .i64 ((i + 1 : Nat) : Int)) (w' := w31) rfl rfl rfl rfl (by simp [go_sem, sEv, sLook, nbeq, i64_w, -List.length_flatten]; have l_ := of_decide_eq_true cM; exact wrap_id (by omega) (by omega)) ?_
      refine rw_val (v := .int .i64 ((i + 1 : Nat) : Int)) (w' := w31) rfl rfl rfl rfl rfl ?_
      refine rw_end ?_
      have l_ := of_decide_eq_true cM
      have hO8_ : Own .u8 5 w31 w.heap.size w.heap.size A28 n29 c30 ((([] ++ lowl (ps.flatten.length : Int) 4 0) ++ lowl (fnv 2166136261 ps.flatten) 4 0) ++ (ps.take (i + 1)).flatten) := by rw [take_flat ps i (by omega), ← List.append_assoc]; exact (hO33.on (Below.refl _ _))
      exact w_back (m - 1) [(7, .slice A28 n29 c30), (35, .slice (some ad) ps.length c0), (36, .int .i64 (ps.length : Int)), (37, .int .i64 ((i + 1 : Nat) : Int))] (by omega) ⟨rfl, rfl, rfl, rfl, trivial⟩ ⟨i + 1, _, _, _, by omega, hO8_, hB34, rfl⟩
    · refine w_exit rfl ?_
      refine w_seq ?_
      refine w_region ?_
      refine rw_val (v := .slice A7 n7 c7) (w' := w_) rfl rfl rfl rfl rfl ?_
      refine rw_val (v := .slice A7 n7 c7) (w' := w_) rfl rfl rfl rfl rfl ?_
      refine rw_val (v := .nilIface) (w' := w_) rfl rfl rfl rfl rfl ?_
      refine rw_end ?_
      refine w_ret (post_ret2 rfl rfl rfl ?_)
      have l_ := of_decide_eq_false cM
      obtain rfl : i = ps.length := by omega
      rw [frameB, frameE, if_neg (by omega), if_neg (by omega)]
      exact ⟨_, _, _, rfl, by simpa using (hO7.on (Below.refl _ _)), hB7⟩
end Go.Proofs.Ytiiljpaedelhlaa.PDiaryPlays
