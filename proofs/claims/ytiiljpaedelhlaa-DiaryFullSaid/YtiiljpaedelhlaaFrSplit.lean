/- The frames that bytes begin with: the walk. -/
import Derived.Test.YtiiljpaedelhlaaFrPlain3
import Derived.Test.YtiiljpaedelhlaaFlowL
import Derived.Test.YtiiljpaedelhlaaFlowI
import Derived.Test.YtiiljpaedelhlaaFrWrap
import Derived.Test.YtiiljpaedelhlaaFlowM
namespace Go.Proofs.Ytiiljpaedelhlaa.PDiaryPlays
open Go.RowKit Go.Proofs.YtiiljpaedelhlaaW.PrintWords Go.Proofs.YtiiljpaedelhlaaW.PrintLast Go.Proofs.YtiiljpaedelhlaaW.PrintMore
open Go.Proofs.Ytiiljpaedelhlaa.Flow
set_option linter.unusedVariables false
set_option linter.unusedSimpArgs false


theorem high_calls (w : World) (A0 : Option Addr) (c0 : Nat) (l : List Int) (hr : (Kd.int .u8).C w A0 l.length l) (hc : l.length ≤ c0) (hb : Bytes l) (hl : l.length ≤ 8) : Calls Try.prog 57 #[.slice A0 l.length c0] w fun e w' => e = .returned (.int .u64 ((valN l : Nat) : Int)) ∧ Drawn0 w w' :=
  frame_high.calls 9 A0 c0 l _ w hr hc (high_f l hb hl 9 (by omega))
set_option maxHeartbeats 4000000 in
theorem whole_calls (w : World) (A0 : Option Addr) (c0 : Nat) (b : List Int) (hC : (Kd.int .u8).C w A0 b.length b) (hc : b.length ≤ c0) (hb : Bytes b) (hl : b.length ≤ 140737488355328) :
    Calls Try.prog 49 #[.slice A0 b.length c0] w fun e w' => e = .returned (.int .i64 ((wholeP b : Nat) : Int)) ∧ Below w.heap.size w w' := by
  refine calls_flow Try.func49 rfl 35 rfl (Nat.le_of_ble_eq_true rfl) [(0, .slice A0 b.length c0)] ?_ ?_
  · intro t v h; exact args_look rfl t v h
  refine w_seq ?_
  refine w_region ?_
  refine rw_val (v := .int .i64 0) (w' := w) rfl rfl rfl rfl rfl ?_
  refine rw_end ?_
  refine w_seq ?_
  refine w_seq ?_
  refine w_region ?_
  refine rw_val (v := .slice A0 b.length c0) (w' := w) rfl rfl rfl rfl rfl ?_
  refine rw_val (v := .int .i64 (b.length : Int)) (w' := w) rfl rfl rfl rfl (by simp [go_sem, sEv, sLook, nbeq, i64_w, -List.length_flatten]) ?_
  refine rw_val (v := .bool (decide ((b.length : Int) < 8))) (w' := w) rfl rfl rfl rfl (by simp [go_sem, sEv, sLook, nbeq, i64_w, -List.length_flatten]) ?_
  refine rw_end ?_
  refine w_cond rfl rfl (fun c8 => ?_) (fun c8 => ?_)
  · refine w_seq ?_
    refine w_region ?_
    refine rw_val (v := .int .i64 0) (w' := w) rfl rfl rfl rfl rfl ?_
    refine rw_end ?_
    refine w_ret (post_ret1 rfl rfl ?_)
    have e_ : wholeP b = 0 := by
      unfold wholeP
      have c8_ := of_decide_eq_true c8
      rw [if_pos (by omega)]
    exact ⟨by rw [e_]; rfl, (Below.refl _ _)⟩
  · refine w_skip ?_
    refine w_seq ?_
    refine w_region ?_
    refine rw_val (v := .slice A0 b.length c0) (w' := w) rfl rfl rfl rfl rfl ?_
    have c8_ := of_decide_eq_false c8
    have l4_ : (b.take 4).length = 4 := by rw [List.length_take]; omega
    have n4_ : valN (b.take 4) < 4294967296 := by have h_ := valN_lt (b.take 4) (hb.take 4); rw [l4_] at h_; exact h_
    have hP1 := (to_C hC 4 (by omega))
    have hc2 : (b.take 4).length ≤ c0 := by have q_ := hc; have q2_ : b.length = b.length := rfl; simp only [List.length_take, List.length_drop]; omega
    refine rw_val (v := .slice A0 ((b.take 4).length) c0) (w' := w) rfl rfl rfl rfl (run_as (run_to (e := 5) (by kernel_rfl) (fun _ => by kernel_rfl) 4 _ (by first | rfl | (simp; done) | omega) rfl (by omega) hc _)) ?_
    refine rw_call rfl rfl rfl rfl (f := 57) (args := #[.slice A0 ((b.take 4).length) c0]) (by simp [go_sem, sEv, sLook, nbeq, i64_w, -List.length_flatten]) (high_calls w _ _ (b.take 4) (Kd.C_below hP1 (Below.refl _ _)) hc2 (hb.take _) (by simp only [List.length_take, List.length_drop]; omega)) ?_
    rintro e_ w3 ⟨rfl, hb4_⟩
    refine ⟨_, rfl, ?_⟩
    have hb4 := hb4_.below
    have hs_w3 := hb4.size
    refine rw_val (v := .int .i64 ((valN (b.take 4) : Nat) : Int)) (w' := w3) rfl rfl rfl rfl (by simp [go_sem, sEv, sLook, nbeq, i64_w, -List.length_flatten]; exact wrap_id (by omega) (by omega)) ?_
    refine rw_val (v := .int .i64 ((valN (b.take 4) : Nat) : Int)) (w' := w3) rfl rfl rfl rfl rfl ?_
    refine rw_end ?_
    refine w_weaken (G' := [(0, .slice A0 b.length c0), (2, .int .i64 0), (3, .int .i64 ((valN (b.take 4) : Nat) : Int))]) ⟨rfl, rfl, rfl, trivial⟩ ?_
    refine w_seq ?_
    refine w_seq ?_
    rcases bcase (decide (16376 < ((valN (b.take 4) : Nat) : Int))) with cM | cM
    · rcases bcase (decide (((b.length : Int) - 8) < ((valN (b.take 4) : Nat) : Int))) with cL | cL
      · refine w_draw (M := [0, 1, 3, 7, 7, 23, 55, 127, 255, 511, 1023, 1023, 3071, 8191, 16383, 32767, 65535, 1023, 132095, 458751, 1048575, 2097151]) (ss := [Is (.int .i64 ((valN (b.take 4) : Nat) : Int)), Is (.bool (decide (16376 < ((valN (b.take 4) : Nat) : Int)))), Is (.bool (decide (16376 < ((valN (b.take 4) : Nat) : Int)))), Is (.int .i64 ((valN (b.take 4) : Nat) : Int)), Is (.slice A0 b.length c0), Is (.int .i64 (b.length : Int)), Is (.int .i64 ((b.length : Int) - 8)), Is (.bool (decide (((b.length : Int) - 8) < ((valN (b.take 4) : Nat) : Int)))), Is (.bool (decide (((b.length : Int) - 8) < ((valN (b.take 4) : Nat) : Int)))), Is (.bool (decide (((b.length : Int) - 8) < ((valN (b.take 4) : Nat) : Int)))), Is (.slice A0 b.length c0), Is (.int .i64 ((valN (b.take 4) : Nat) : Int)), Is (.int .i64 ((8 + valN (b.take 4) : Nat) : Int)), Is (.slice (adr A0 c0 8) (((b.take (8 + valN (b.take 4))).drop 8).length) (c0 - 8)), SlcSpec w3.heap.size 32 #[.slice (adr A0 c0 8) (((b.take (8 + valN (b.take 4))).drop 8).length) (c0 - 8)] 1, (Is (.int .u32 (fnv 2166136261 ([((b.take (8 + valN (b.take 4))).drop 8)]).flatten))), Is (.int .u64 (fnv 2166136261 ((b.take (8 + valN (b.take 4))).drop 8))), Is (.slice A0 b.length c0), Is (.slice (adr A0 c0 4) (((b.take 8).drop 4).length) (c0 - 4)), (Is (.int .u64 ((valN ((b.take 8).drop 4) : Nat) : Int))), Is (.bool ((fnv 2166136261 ((b.take (8 + valN (b.take 4))).drop 8)) != ((valN ((b.take 8).drop 4) : Nat) : Int))), Is (.bool ((fnv 2166136261 ((b.take (8 + valN (b.take 4))).drop 8)) != ((valN ((b.take 8).drop 4) : Nat) : Int)))]) rfl (by decide +kernel) ?_
        refine t_is (.int .i64 ((valN (b.take 4) : Nat) : Int)) rfl rfl rfl rfl (fun W_ hW_ F_ => rfl) ?_
        refine t_is (.bool (decide (16376 < ((valN (b.take 4) : Nat) : Int)))) rfl rfl rfl rfl (fun W_ hW_ F_ => by simp [go_sem, sEv, sLook, nbeq, i64_w, -List.length_flatten]) ?_
        refine t_is (.bool (decide (16376 < ((valN (b.take 4) : Nat) : Int)))) rfl rfl rfl rfl (fun W_ hW_ F_ => rfl) ?_
        refine t_gis (c := decide (16376 < ((valN (b.take 4) : Nat) : Int))) (.int .i64 ((valN (b.take 4) : Nat) : Int)) rfl rfl rfl (by first | (rw [cM]; rfl) | simp [cM]) rfl rfl rfl (fun W_ hW_ F_ => rfl) ?_
        refine t_gis (c := decide (16376 < ((valN (b.take 4) : Nat) : Int))) (.slice A0 b.length c0) rfl rfl rfl (by first | (rw [cM]; rfl) | simp [cM]) rfl rfl rfl (fun W_ hW_ F_ => rfl) ?_
        refine t_gis (c := decide (16376 < ((valN (b.take 4) : Nat) : Int))) (.int .i64 (b.length : Int)) rfl rfl rfl (by first | (rw [cM]; rfl) | simp [cM]) rfl rfl rfl (fun W_ hW_ F_ => by simp [go_sem, sEv, sLook, nbeq, i64_w, -List.length_flatten]) ?_
        refine t_gis (c := decide (16376 < ((valN (b.take 4) : Nat) : Int))) (.int .i64 ((b.length : Int) - 8)) rfl rfl rfl (by first | (rw [cM]; rfl) | simp [cM]) rfl rfl rfl (fun W_ hW_ F_ => by simp [go_sem, sEv, sLook, nbeq, i64_w, -List.length_flatten]; exact wrap_id (by omega) (by omega)) ?_
        refine t_gis (c := decide (16376 < ((valN (b.take 4) : Nat) : Int))) (.bool (decide (((b.length : Int) - 8) < ((valN (b.take 4) : Nat) : Int)))) rfl rfl rfl (by first | (rw [cM]; rfl) | simp [cM]) rfl rfl rfl (fun W_ hW_ F_ => by simp [go_sem, sEv, sLook, nbeq, i64_w, -List.length_flatten]) ?_
        refine t_is (.bool (decide (((b.length : Int) - 8) < ((valN (b.take 4) : Nat) : Int)))) rfl rfl rfl rfl (fun W_ hW_ F_ => by first | (simp [go_sem, sEv, sLook, nbeq, i64_w, -List.length_flatten, cM]; done) | (simp [go_sem, sEv, sLook, nbeq, i64_w, -List.length_flatten] <;> omega) | (simp [go_sem, sEv, sLook, nbeq, i64_w, -List.length_flatten]; intro h_; exact absurd (by omega) h_) | (rw [cM]; simp [go_sem, sEv, sLook, nbeq, i64_w, -List.length_flatten]; done)) ?_
        refine t_is (.bool (decide (((b.length : Int) - 8) < ((valN (b.take 4) : Nat) : Int)))) rfl rfl rfl rfl (fun W_ hW_ F_ => rfl) ?_
        refine t_gis (c := decide (((b.length : Int) - 8) < ((valN (b.take 4) : Nat) : Int))) (.slice A0 b.length c0) rfl rfl rfl (by first | (rw [cL]; rfl) | simp [cL]) rfl rfl rfl (fun W_ hW_ F_ => rfl) ?_
        refine t_gis (c := decide (((b.length : Int) - 8) < ((valN (b.take 4) : Nat) : Int))) (.int .i64 ((valN (b.take 4) : Nat) : Int)) rfl rfl rfl (by first | (rw [cL]; rfl) | simp [cL]) rfl rfl rfl (fun W_ hW_ F_ => rfl) ?_
        refine t_gis (c := decide (((b.length : Int) - 8) < ((valN (b.take 4) : Nat) : Int))) (.int .i64 ((8 + valN (b.take 4) : Nat) : Int)) rfl rfl rfl (by first | (rw [cL]; rfl) | simp [cL]) rfl rfl rfl (fun W_ hW_ F_ => by simp [go_sem, sEv, sLook, nbeq, i64_w, -List.length_flatten]; exact wrap_id (by omega) (by omega)) ?_
        have cL_ := of_decide_eq_false cL
        have cM_ := of_decide_eq_false cM
        have hP5 := (mid_C hC 8 (8 + valN (b.take 4)) (by omega) (by omega) (show b.length ≤ c0 by have q_ := hc; have q2_ : b.length = b.length := rfl; omega))
        have hc6 : ((b.take (8 + valN (b.take 4))).drop 8).length ≤ (c0 - 8) := by have q_ := hc; have q2_ : b.length = b.length := rfl; simp only [List.length_take, List.length_drop]; omega
        refine t_gis (c := decide (((b.length : Int) - 8) < ((valN (b.take 4) : Nat) : Int))) (.slice (adr A0 c0 8) (((b.take (8 + valN (b.take 4))).drop 8).length) (c0 - 8)) rfl rfl rfl (by first | (rw [cL]; rfl) | simp [cL]) rfl rfl rfl (fun W_ hW_ F_ => (run_as (run_mid (e := 5) (by kernel_rfl) (fun _ => by kernel_rfl) 8 (8 + valN (b.take 4)) _ _ (by first | rfl | (simp; done) | omega) (by first | rfl | (simp; done) | omega) rfl (by omega) (by omega) hc _))) ?_
        refine t_gval (c := decide (((b.length : Int) - 8) < ((valN (b.take 4) : Nat) : Int))) (SlcSpec w3.heap.size 32 #[.slice (adr A0 c0 8) (((b.take (8 + valN (b.take 4))).drop 8).length) (c0 - 8)] 1) rfl rfl rfl (by first | (rw [cL]; rfl) | simp [cL]) rfl rfl rfl (fun W_ hW_ F_ => slc_gives _ _ _ _ (below_of_drew hW_).size (by kernel_rfl)) ?_
        rintro _ ⟨g7, rfl⟩
        refine t_gcall (c := decide (((b.length : Int) - 8) < ((valN (b.take 4) : Nat) : Int))) (f := 52) (args := #[.slice (some ⟨g7, 0, none⟩) 1 1]) (Is (.int .u32 (fnv 2166136261 ([((b.take (8 + valN (b.take 4))).drop 8)]).flatten))) rfl rfl rfl (by first | (rw [cL]; rfl) | simp [cL]) rfl rfl rfl (fun W_ => by simp [go_sem, sEv, sLook, nbeq, i64_w, -List.length_flatten]) (fun W_ hW_ F_ => ?_) ?_
        · refine (frame_Sum.calls (2 * [((b.take (8 + valN (b.take 4))).drop 8)].length + 1 + [((b.take (8 + valN (b.take 4))).drop 8)].flatten.length) _ 1 [((b.take (8 + valN (b.take 4))).drop 8)] _ W_ (rows1 (e := 5) (slc_fact (F_ 14 _ _ rfl rfl)).2 hc6 (Kd.C_below hP5 (chain hb4 (below_of_drew hW_)))) (by simp) (sum_f _ (by simp) (by simp only [List.mem_cons, List.not_mem_nil, or_false, forall_eq, List.length_take, List.length_drop]; omega) _ (Nat.le_refl _))).mono ?_
          rintro e_ w_ ⟨rfl, hd_⟩
          exact ⟨_, rfl, rfl, hd_.below⟩
        rintro _ rfl
        refine t_gis (c := decide (((b.length : Int) - 8) < ((valN (b.take 4) : Nat) : Int))) (.int .u64 (fnv 2166136261 ((b.take (8 + valN (b.take 4))).drop 8))) rfl rfl rfl (by first | (rw [cL]; rfl) | simp [cL]) rfl rfl rfl (fun W_ hW_ F_ => by simp [go_sem, sEv, sLook, nbeq, i64_w, -List.length_flatten]; have hf_ := fnv_range ((b.take (8 + valN (b.take 4))).drop 8) 2166136261 (by omega); rw [u64_wrap]; omega) ?_
        refine t_gis (c := decide (((b.length : Int) - 8) < ((valN (b.take 4) : Nat) : Int))) (.slice A0 b.length c0) rfl rfl rfl (by first | (rw [cL]; rfl) | simp [cL]) rfl rfl rfl (fun W_ hW_ F_ => rfl) ?_
        have hP10 := (mid_C hC 4 8 (by omega) (by omega) (show b.length ≤ c0 by have q_ := hc; have q2_ : b.length = b.length := rfl; omega))
        have hc11 : ((b.take 8).drop 4).length ≤ (c0 - 4) := by have q_ := hc; have q2_ : b.length = b.length := rfl; simp only [List.length_take, List.length_drop]; omega
        refine t_gis (c := decide (((b.length : Int) - 8) < ((valN (b.take 4) : Nat) : Int))) (.slice (adr A0 c0 4) (((b.take 8).drop 4).length) (c0 - 4)) rfl rfl rfl (by first | (rw [cL]; rfl) | simp [cL]) rfl rfl rfl (fun W_ hW_ F_ => (run_as (run_mid (e := 5) (by kernel_rfl) (fun _ => by kernel_rfl) 4 8 _ _ (by first | rfl | (simp; done) | omega) (by first | rfl | (simp; done) | omega) rfl (by omega) (by omega) hc _))) ?_
        refine t_gcall (c := decide (((b.length : Int) - 8) < ((valN (b.take 4) : Nat) : Int))) (f := 57) (args := #[.slice (adr A0 c0 4) (((b.take 8).drop 4).length) (c0 - 4)]) (Is (.int .u64 ((valN ((b.take 8).drop 4) : Nat) : Int))) rfl rfl rfl (by first | (rw [cL]; rfl) | simp [cL]) rfl rfl rfl (fun W_ => by simp [go_sem, sEv, sLook, nbeq, i64_w, -List.length_flatten]) (fun W_ hW_ F_ => ?_) ?_
        · refine (high_calls W_ _ _ ((b.take 8).drop 4) (Kd.C_below hP10 (chain hb4 (below_of_drew hW_))) hc11 ((hb.take _).drop _) (by simp only [List.length_take, List.length_drop]; omega)).mono ?_
          rintro e_ w_ ⟨rfl, hd_⟩
          exact ⟨_, rfl, rfl, hd_.below⟩
        rintro _ rfl
        refine t_gis (c := decide (((b.length : Int) - 8) < ((valN (b.take 4) : Nat) : Int))) (.bool ((fnv 2166136261 ((b.take (8 + valN (b.take 4))).drop 8)) != ((valN ((b.take 8).drop 4) : Nat) : Int))) rfl rfl rfl (by first | (rw [cL]; rfl) | simp [cL]) rfl rfl rfl (fun W_ hW_ F_ => by simp [go_sem, sEv, sLook, nbeq, i64_w, -List.length_flatten]) ?_
        refine t_is (.bool ((fnv 2166136261 ((b.take (8 + valN (b.take 4))).drop 8)) != ((valN ((b.take 8).drop 4) : Nat) : Int))) rfl rfl rfl rfl (fun W_ hW_ F_ => by first | (simp [go_sem, sEv, sLook, nbeq, i64_w, -List.length_flatten, cL]; done) | (simp [go_sem, sEv, sLook, nbeq, i64_w, -List.length_flatten] <;> omega) | (simp [go_sem, sEv, sLook, nbeq, i64_w, -List.length_flatten]; intro h_; exact absurd (by omega) h_) | (rw [cL]; simp [go_sem, sEv, sLook, nbeq, i64_w, -List.length_flatten]; done)) ?_
        refine t_end ?_
        intro w12 hb13_ F14
        have hb13 := below_of_drew hb13_
        have hs_w12 := hb13.size
        refine w_weaken (G' := [(2, .int .i64 0), (3, .int .i64 ((valN (b.take 4) : Nat) : Int)), (32, .bool ((fnv 2166136261 ((b.take (8 + valN (b.take 4))).drop 8)) != ((valN ((b.take 8).drop 4) : Nat) : Int)))]) ⟨rfl, rfl, rfl, trivial⟩ ?_
        refine w_cond rfl rfl (fun cS => ?_) (fun cS => ?_)
        · refine w_seq ?_
          refine w_region ?_
          refine rw_val (v := .int .i64 0) (w' := w12) rfl rfl rfl rfl rfl ?_
          refine rw_end ?_
          refine w_ret (post_ret1 rfl rfl ?_)
          have e_ : wholeP b = 0 := by
            unfold wholeP
            have c8_ := of_decide_eq_false c8
            rw [if_neg (by omega)]
            have cM_ := of_decide_eq_false cM
            rw [if_neg (by omega)]
            have cL_ := of_decide_eq_false cL
            rw [if_neg (by omega)]
            have eX_ : ((b.take (8 + valN (b.take 4))).drop 8) = (b.drop 8).take (valN (b.take 4)) := (by rw [List.drop_take]; congr 1; omega)
            rw [eX_] at cS
            rw [if_neg (by simpa using cS)]
          exact ⟨by rw [e_]; rfl, (chain hb4 hb13)⟩
        · refine w_skip ?_
          refine w_seq ?_
          refine w_region ?_
          refine rw_val (v := .int .i64 ((valN (b.take 4) : Nat) : Int)) (w' := w12) rfl rfl rfl rfl rfl ?_
          refine rw_val (v := .int .i64 ((8 + valN (b.take 4) : Nat) : Int)) (w' := w12) rfl rfl rfl rfl (by simp [go_sem, sEv, sLook, nbeq, i64_w, -List.length_flatten]; exact wrap_id (by omega) (by omega)) ?_
          refine rw_val (v := .int .i64 ((8 + valN (b.take 4) : Nat) : Int)) (w' := w12) rfl rfl rfl rfl rfl ?_
          refine rw_end ?_
          refine w_ret (post_ret1 rfl rfl ?_)
          have e_ : wholeP b = 8 + valN (b.take 4) := by
            unfold wholeP
            have c8_ := of_decide_eq_false c8
            rw [if_neg (by omega)]
            have cM_ := of_decide_eq_false cM
            rw [if_neg (by omega)]
            have cL_ := of_decide_eq_false cL
            rw [if_neg (by omega)]
            have eX_ : ((b.take (8 + valN (b.take 4))).drop 8) = (b.drop 8).take (valN (b.take 4)) := (by rw [List.drop_take]; congr 1; omega)
            rw [eX_] at cS
            rw [if_pos (by simpa using cS)]
          exact ⟨by rw [e_], (chain hb4 hb13)⟩
      · refine w_draw (M := [0, 1, 3, 7, 7, 23, 55, 127, 255, 511, 1023, 1023, 3071, 8191, 16383, 32767, 65535, 1023, 132095, 458751, 1048575, 2097151]) (ss := [Is (.int .i64 ((valN (b.take 4) : Nat) : Int)), Is (.bool (decide (16376 < ((valN (b.take 4) : Nat) : Int)))), Is (.bool (decide (16376 < ((valN (b.take 4) : Nat) : Int)))), Is (.int .i64 ((valN (b.take 4) : Nat) : Int)), Is (.slice A0 b.length c0), Is (.int .i64 (b.length : Int)), Is (.int .i64 ((b.length : Int) - 8)), Is (.bool (decide (((b.length : Int) - 8) < ((valN (b.take 4) : Nat) : Int)))), Is (.bool (decide (((b.length : Int) - 8) < ((valN (b.take 4) : Nat) : Int)))), Is (.bool (decide (((b.length : Int) - 8) < ((valN (b.take 4) : Nat) : Int)))), Is undef, Is undef, Is undef, Is undef, Is undef, Is undef, Is undef, Is undef, Is undef, Is undef, Is undef, Is (.bool true)]) rfl (by decide +kernel) ?_
        refine t_is (.int .i64 ((valN (b.take 4) : Nat) : Int)) rfl rfl rfl rfl (fun W_ hW_ F_ => rfl) ?_
        refine t_is (.bool (decide (16376 < ((valN (b.take 4) : Nat) : Int)))) rfl rfl rfl rfl (fun W_ hW_ F_ => by simp [go_sem, sEv, sLook, nbeq, i64_w, -List.length_flatten]) ?_
        refine t_is (.bool (decide (16376 < ((valN (b.take 4) : Nat) : Int)))) rfl rfl rfl rfl (fun W_ hW_ F_ => rfl) ?_
        refine t_gis (c := decide (16376 < ((valN (b.take 4) : Nat) : Int))) (.int .i64 ((valN (b.take 4) : Nat) : Int)) rfl rfl rfl (by first | (rw [cM]; rfl) | simp [cM]) rfl rfl rfl (fun W_ hW_ F_ => rfl) ?_
        refine t_gis (c := decide (16376 < ((valN (b.take 4) : Nat) : Int))) (.slice A0 b.length c0) rfl rfl rfl (by first | (rw [cM]; rfl) | simp [cM]) rfl rfl rfl (fun W_ hW_ F_ => rfl) ?_
        refine t_gis (c := decide (16376 < ((valN (b.take 4) : Nat) : Int))) (.int .i64 (b.length : Int)) rfl rfl rfl (by first | (rw [cM]; rfl) | simp [cM]) rfl rfl rfl (fun W_ hW_ F_ => by simp [go_sem, sEv, sLook, nbeq, i64_w, -List.length_flatten]) ?_
        refine t_gis (c := decide (16376 < ((valN (b.take 4) : Nat) : Int))) (.int .i64 ((b.length : Int) - 8)) rfl rfl rfl (by first | (rw [cM]; rfl) | simp [cM]) rfl rfl rfl (fun W_ hW_ F_ => by simp [go_sem, sEv, sLook, nbeq, i64_w, -List.length_flatten]; exact wrap_id (by omega) (by omega)) ?_
        refine t_gis (c := decide (16376 < ((valN (b.take 4) : Nat) : Int))) (.bool (decide (((b.length : Int) - 8) < ((valN (b.take 4) : Nat) : Int)))) rfl rfl rfl (by first | (rw [cM]; rfl) | simp [cM]) rfl rfl rfl (fun W_ hW_ F_ => by simp [go_sem, sEv, sLook, nbeq, i64_w, -List.length_flatten]) ?_
        refine t_is (.bool (decide (((b.length : Int) - 8) < ((valN (b.take 4) : Nat) : Int)))) rfl rfl rfl rfl (fun W_ hW_ F_ => by first | (simp [go_sem, sEv, sLook, nbeq, i64_w, -List.length_flatten, cM]; done) | (simp [go_sem, sEv, sLook, nbeq, i64_w, -List.length_flatten] <;> omega) | (simp [go_sem, sEv, sLook, nbeq, i64_w, -List.length_flatten]; intro h_; exact absurd (by omega) h_) | (rw [cM]; simp [go_sem, sEv, sLook, nbeq, i64_w, -List.length_flatten]; done)) ?_
        refine t_is (.bool (decide (((b.length : Int) - 8) < ((valN (b.take 4) : Nat) : Int)))) rfl rfl rfl rfl (fun W_ hW_ F_ => rfl) ?_
        refine t_off (c := decide (((b.length : Int) - 8) < ((valN (b.take 4) : Nat) : Int))) rfl rfl rfl (by first | (rw [cL]; rfl) | simp [cL]) rfl rfl ?_
        refine t_off (c := decide (((b.length : Int) - 8) < ((valN (b.take 4) : Nat) : Int))) rfl rfl rfl (by first | (rw [cL]; rfl) | simp [cL]) rfl rfl ?_
        refine t_off (c := decide (((b.length : Int) - 8) < ((valN (b.take 4) : Nat) : Int))) rfl rfl rfl (by first | (rw [cL]; rfl) | simp [cL]) rfl rfl ?_
        refine t_off (c := decide (((b.length : Int) - 8) < ((valN (b.take 4) : Nat) : Int))) rfl rfl rfl (by first | (rw [cL]; rfl) | simp [cL]) rfl rfl ?_
        refine t_off (c := decide (((b.length : Int) - 8) < ((valN (b.take 4) : Nat) : Int))) rfl rfl rfl (by first | (rw [cL]; rfl) | simp [cL]) rfl rfl ?_
        refine t_off (c := decide (((b.length : Int) - 8) < ((valN (b.take 4) : Nat) : Int))) rfl rfl rfl (by first | (rw [cL]; rfl) | simp [cL]) rfl rfl ?_
        refine t_off (c := decide (((b.length : Int) - 8) < ((valN (b.take 4) : Nat) : Int))) rfl rfl rfl (by first | (rw [cL]; rfl) | simp [cL]) rfl rfl ?_
        refine t_off (c := decide (((b.length : Int) - 8) < ((valN (b.take 4) : Nat) : Int))) rfl rfl rfl (by first | (rw [cL]; rfl) | simp [cL]) rfl rfl ?_
        refine t_off (c := decide (((b.length : Int) - 8) < ((valN (b.take 4) : Nat) : Int))) rfl rfl rfl (by first | (rw [cL]; rfl) | simp [cL]) rfl rfl ?_
        refine t_off (c := decide (((b.length : Int) - 8) < ((valN (b.take 4) : Nat) : Int))) rfl rfl rfl (by first | (rw [cL]; rfl) | simp [cL]) rfl rfl ?_
        refine t_off (c := decide (((b.length : Int) - 8) < ((valN (b.take 4) : Nat) : Int))) rfl rfl rfl (by first | (rw [cL]; rfl) | simp [cL]) rfl rfl ?_
        refine t_is (.bool true) rfl rfl rfl rfl (fun W_ hW_ F_ => by first | (simp [go_sem, sEv, sLook, nbeq, i64_w, -List.length_flatten, cL]; done) | (simp [go_sem, sEv, sLook, nbeq, i64_w, -List.length_flatten] <;> omega) | (simp [go_sem, sEv, sLook, nbeq, i64_w, -List.length_flatten]; intro h_; exact absurd (by omega) h_) | (rw [cL]; simp [go_sem, sEv, sLook, nbeq, i64_w, -List.length_flatten]; done)) ?_
        refine t_end ?_
        intro w15 hb16_ F17
        have hb16 := below_of_drew hb16_
        have hs_w15 := hb16.size
        refine w_weaken (G' := [(2, .int .i64 0), (3, .int .i64 ((valN (b.take 4) : Nat) : Int)), (32, .bool true)]) ⟨rfl, rfl, rfl, trivial⟩ ?_
        refine w_cond_t rfl rfl rfl ?_
        refine w_seq ?_
        refine w_region ?_
        refine rw_val (v := .int .i64 0) (w' := w15) rfl rfl rfl rfl rfl ?_
        refine rw_end ?_
        refine w_ret (post_ret1 rfl rfl ?_)
        have e_ : wholeP b = 0 := by
          unfold wholeP
          have c8_ := of_decide_eq_false c8
          rw [if_neg (by omega)]
          have cM_ := of_decide_eq_false cM
          rw [if_neg (by omega)]
          have cL_ := of_decide_eq_true cL
          rw [if_pos (by omega)]
        exact ⟨by rw [e_]; rfl, (chain hb4 hb16)⟩
    · refine w_draw (M := [0, 1, 3, 7, 7, 23, 55, 127, 255, 511, 1023, 1023, 3071, 8191, 16383, 32767, 65535, 1023, 132095, 458751, 1048575, 2097151]) (ss := [Is (.int .i64 ((valN (b.take 4) : Nat) : Int)), Is (.bool (decide (16376 < ((valN (b.take 4) : Nat) : Int)))), Is (.bool (decide (16376 < ((valN (b.take 4) : Nat) : Int)))), Is undef, Is undef, Is undef, Is undef, Is undef, Is (.bool true), Is (.bool true), Is undef, Is undef, Is undef, Is undef, Is undef, Is undef, Is undef, Is undef, Is undef, Is undef, Is undef, Is (.bool true)]) rfl (by decide +kernel) ?_
      refine t_is (.int .i64 ((valN (b.take 4) : Nat) : Int)) rfl rfl rfl rfl (fun W_ hW_ F_ => rfl) ?_
      refine t_is (.bool (decide (16376 < ((valN (b.take 4) : Nat) : Int)))) rfl rfl rfl rfl (fun W_ hW_ F_ => by simp [go_sem, sEv, sLook, nbeq, i64_w, -List.length_flatten]) ?_
      refine t_is (.bool (decide (16376 < ((valN (b.take 4) : Nat) : Int)))) rfl rfl rfl rfl (fun W_ hW_ F_ => rfl) ?_
      refine t_off (c := decide (16376 < ((valN (b.take 4) : Nat) : Int))) rfl rfl rfl (by first | (rw [cM]; rfl) | simp [cM]) rfl rfl ?_
      refine t_off (c := decide (16376 < ((valN (b.take 4) : Nat) : Int))) rfl rfl rfl (by first | (rw [cM]; rfl) | simp [cM]) rfl rfl ?_
      refine t_off (c := decide (16376 < ((valN (b.take 4) : Nat) : Int))) rfl rfl rfl (by first | (rw [cM]; rfl) | simp [cM]) rfl rfl ?_
      refine t_off (c := decide (16376 < ((valN (b.take 4) : Nat) : Int))) rfl rfl rfl (by first | (rw [cM]; rfl) | simp [cM]) rfl rfl ?_
      refine t_off (c := decide (16376 < ((valN (b.take 4) : Nat) : Int))) rfl rfl rfl (by first | (rw [cM]; rfl) | simp [cM]) rfl rfl ?_
      refine t_is (.bool true) rfl rfl rfl rfl (fun W_ hW_ F_ => by first | (simp [go_sem, sEv, sLook, nbeq, i64_w, -List.length_flatten, cM]; done) | (simp [go_sem, sEv, sLook, nbeq, i64_w, -List.length_flatten] <;> omega) | (simp [go_sem, sEv, sLook, nbeq, i64_w, -List.length_flatten]; intro h_; exact absurd (by omega) h_) | (rw [cM]; simp [go_sem, sEv, sLook, nbeq, i64_w, -List.length_flatten]; done)) ?_
      refine t_is (.bool true) rfl rfl rfl rfl (fun W_ hW_ F_ => rfl) ?_
      refine t_off (c := true) rfl rfl rfl rfl rfl rfl ?_
      refine t_off (c := true) rfl rfl rfl rfl rfl rfl ?_
      refine t_off (c := true) rfl rfl rfl rfl rfl rfl ?_
      refine t_off (c := true) rfl rfl rfl rfl rfl rfl ?_
      refine t_off (c := true) rfl rfl rfl rfl rfl rfl ?_
      refine t_off (c := true) rfl rfl rfl rfl rfl rfl ?_
      refine t_off (c := true) rfl rfl rfl rfl rfl rfl ?_
      refine t_off (c := true) rfl rfl rfl rfl rfl rfl ?_
      refine t_off (c := true) rfl rfl rfl rfl rfl rfl ?_
      refine t_off (c := true) rfl rfl rfl rfl rfl rfl ?_
      refine t_off (c := true) rfl rfl rfl rfl rfl rfl ?_
      refine t_is (.bool true) rfl rfl rfl rfl (fun W_ hW_ F_ => by simp [go_sem, sEv, sLook, nbeq, i64_w, -List.length_flatten]) ?_
      refine t_end ?_
      intro w18 hb19_ F20
      have hb19 := below_of_drew hb19_
      have hs_w18 := hb19.size
      refine w_weaken (G' := [(2, .int .i64 0), (3, .int .i64 ((valN (b.take 4) : Nat) : Int)), (32, .bool true)]) ⟨rfl, rfl, rfl, trivial⟩ ?_
      refine w_cond_t rfl rfl rfl ?_
      refine w_seq ?_
      refine w_region ?_
      refine rw_val (v := .int .i64 0) (w' := w18) rfl rfl rfl rfl rfl ?_
      refine rw_end ?_
      refine w_ret (post_ret1 rfl rfl ?_)
      have e_ : wholeP b = 0 := by
        unfold wholeP
        have c8_ := of_decide_eq_false c8
        rw [if_neg (by omega)]
        have cM_ := of_decide_eq_true cM
        rw [if_pos (by omega)]
      exact ⟨by rw [e_]; rfl, (chain hb4 hb19)⟩
end Go.Proofs.Ytiiljpaedelhlaa.PDiaryPlays
namespace Go.Proofs.Ytiiljpaedelhlaa.PDiaryPlays
open Go.RowKit Go.Proofs.YtiiljpaedelhlaaW.PrintWords Go.Proofs.YtiiljpaedelhlaaW.PrintLast Go.Proofs.YtiiljpaedelhlaaW.PrintMore
open Go.Proofs.Ytiiljpaedelhlaa.Flow
set_option linter.unusedVariables false
set_option linter.unusedSimpArgs false


theorem info22 : (Try.prog.info? 32).map (fun i => (i.zero, i.size, i.bytes)) = some (some (.slice none 0 0), 1, 24) := by kernel_rfl
set_option maxHeartbeats 4000000 in
theorem split_calls (w : World) (A0 : Option Addr) (c0 : Nat) (b : List Int) (hC : (Kd.int .u8).C w A0 b.length b) (hc : b.length ≤ c0) (hb : Bytes b) (hl : b.length ≤ 1000000000) :
    Calls Try.prog 36 #[.slice A0 b.length c0] w fun e w' => ∃ (out : List (List Int)) (n : Nat) (A' : Option Addr) (c' : Nat), e = .returned (.tuple #[.slice A' out.length c', .int .i64 (n : Int)]) ∧ SplitR b out n ∧ (Kd.slice 5 (Kd.int .u8)).R 32 w' w.heap.size (fun q => w.heap.size ≤ q) (.slice A' out.length c') out ∧ Below w.heap.size w w' := by
  refine calls_flow Try.func36 rfl 31 rfl (Nat.le_of_ble_eq_true rfl) [(0, .slice A0 b.length c0)] ?_ ?_
  · intro t v h; exact args_look rfl t v h
  refine w_seq ?_
  refine w_region ?_
  refine rw_val (v := .slice none 0 0) (w' := w) rfl rfl rfl rfl rfl ?_
  refine rw_val (v := .int .i64 0) (w' := w) rfl rfl rfl rfl rfl ?_
  refine rw_end ?_
  refine w_seq ?_
  refine w_region ?_
  refine rw_val (v := .slice none 0 0) (w' := w) rfl rfl rfl rfl rfl ?_
  refine rw_end ?_
  refine w_seq ?_
  refine w_region ?_
  refine rw_val (v := .int .i64 0) (w' := w) rfl rfl rfl rfl rfl ?_
  refine rw_end ?_
  refine w_seq ?_
  refine w_seq ?_
  refine w_region ?_
  refine rw_val (v := .slice A0 b.length c0) (w' := w) rfl rfl rfl rfl rfl ?_
  refine rw_call rfl rfl rfl rfl (f := 49) (args := #[.slice A0 b.length c0]) (by simp [go_sem, sEv, sLook, nbeq, i64_w, -List.length_flatten]) (whole_calls w _ _ b (Kd.C_below hC (Below.refl _ _)) hc hb (by omega)) ?_
  rintro e_ w1 ⟨rfl, hb2⟩
  refine ⟨_, rfl, ?_⟩
  have hs_w1 := hb2.size
  refine rw_val (v := .int .i64 ((wholeP b : Nat) : Int)) (w' := w1) rfl rfl rfl rfl rfl ?_
  refine rw_end ?_
  refine w_block ?_
  refine w_loop (fun m_ G W_ => ∃ (at_ : Nat) (out : List (List Int)) (A4 : Option Addr) (c4 : Nat), at_ + m_ = b.length ∧ 8 * out.length ≤ at_ ∧ Below w.heap.size w W_ ∧ (Kd.slice 5 (Kd.int .u8)).R 32 W_ w.heap.size (fun q => w.heap.size ≤ q) (.slice A4 out.length c4) out ∧ (∀ l n, SplitR (b.drop at_) l n → SplitR b (out ++ l) (at_ + n)) ∧ G = [(0, .slice A0 b.length c0), (4, .slice A4 out.length c4), (5, .int .i64 (at_ : Int)), (6, .int .i64 ((wholeP (b.drop at_) : Nat) : Int))]) b.length [(0, .slice A0 b.length c0), (4, .slice none 0 0), (5, .int .i64 0), (6, .int .i64 ((wholeP b : Nat) : Int))] ⟨0, [], none, 0, by omega, by simp, hb2, Kd.R_nil _ _ _ _ _, fun l n h => by simpa using h, by simp⟩ ⟨rfl, rfl, rfl, rfl, trivial⟩ ?_
  rintro m_ G w_ ⟨at_, out, A4, c4, him, hout, hBw_, hR4, hS_, rfl⟩
  have hs_w_ := hBw_.size
  have hwl_ := wholeP_le (b.drop at_)
  rw [List.length_drop] at hwl_
  refine w_seq ?_
  refine w_seq ?_
  refine w_region ?_
  refine rw_val (v := .int .i64 ((wholeP (b.drop at_) : Nat) : Int)) (w' := w_) rfl rfl rfl rfl rfl ?_
  refine rw_val (v := .bool (decide (0 < ((wholeP (b.drop at_) : Nat) : Int)))) (w' := w_) rfl rfl rfl rfl (by simp [go_sem, sEv, sLook, nbeq, i64_w, -List.length_flatten]) ?_
  refine rw_end ?_
  refine w_cond rfl rfl (fun cL => ?_) (fun cL => ?_)
  · refine w_skip ?_
    refine w_seq ?_
    refine w_block ?_
    refine w_seq ?_
    refine w_region ?_
    refine rw_val (v := .slice A4 out.length c4) (w' := w_) rfl rfl rfl rfl rfl ?_
    refine rw_val (v := .slice A0 b.length c0) (w' := w_) rfl rfl rfl rfl rfl ?_
    have lp_ := of_decide_eq_true cL
    refine rw_val (v := .int .i64 (at_ : Int)) (w' := w_) rfl rfl rfl rfl rfl ?_
    refine rw_val (v := .int .i64 ((at_ + 8 : Nat) : Int)) (w' := w_) rfl rfl rfl rfl (by simp [go_sem, sEv, sLook, nbeq, i64_w, -List.length_flatten]; exact wrap_id (by omega) (by omega)) ?_
    refine rw_val (v := .int .i64 (at_ : Int)) (w' := w_) rfl rfl rfl rfl rfl ?_
    refine rw_val (v := .int .i64 ((wholeP (b.drop at_) : Nat) : Int)) (w' := w_) rfl rfl rfl rfl rfl ?_
    refine rw_val (v := .int .i64 ((at_ + wholeP (b.drop at_) : Nat) : Int)) (w' := w_) rfl rfl rfl rfl (by simp [go_sem, sEv, sLook, nbeq, i64_w, -List.length_flatten]; exact wrap_id (by omega) (by omega)) ?_
    have hP3 := (mid_C hC (at_ + 8) (at_ + wholeP (b.drop at_)) (by omega) (by omega) (show b.length ≤ c0 by have q_ := hc; have q2_ : b.length = b.length := rfl; omega))
    have hc4 : ((b.take (at_ + wholeP (b.drop at_))).drop (at_ + 8)).length ≤ (c0 - (at_ + 8)) := by have q_ := hc; have q2_ : b.length = b.length := rfl; simp only [List.length_take, List.length_drop]; omega
    refine rw_val (v := .slice (adr A0 c0 (at_ + 8)) (((b.take (at_ + wholeP (b.drop at_))).drop (at_ + 8)).length) (c0 - (at_ + 8))) (w' := w_) rfl rfl rfl rfl (run_as (run_mid (e := 5) (by kernel_rfl) (fun _ => by kernel_rfl) (at_ + 8) (at_ + wholeP (b.drop at_)) _ _ (by first | rfl | (simp; done) | omega) (by first | rfl | (simp; done) | omega) rfl (by omega) (by omega) hc _)) ?_
    refine rw_call rfl rfl rfl rfl (f := 42) (args := #[.slice (adr A0 c0 (at_ + 8)) (((b.take (at_ + wholeP (b.drop at_))).drop (at_ + 8)).length) (c0 - (at_ + 8))]) (by simp [go_sem, sEv, sLook, nbeq, i64_w, -List.length_flatten]) (clone_calls w_ _ _ _ ((b.take (at_ + wholeP (b.drop at_))).drop (at_ + 8)) (Kd.C_below hP3 hBw_) (by simp only [List.length_take, List.length_drop]; omega)) ?_
    rintro e_ w8 ⟨A5, n6, c7, rfl, hO9, hB10⟩
    refine ⟨_, rfl, ?_⟩
    have hs_w8 := hB10.size
    have hL11 : Own .u8 5 w8 w.heap.size w_.heap.size A5 n6 c7 ((b.take (at_ + wholeP (b.drop at_))).drop (at_ + 8)) := Own.lower hO9 (by omega)
    refine rw_new (cs := #[.slice A5 n6 c7]) (t := 32) (fun g => .slice (some ⟨g, 0, none⟩) 1 1) rfl rfl rfl rfl (by kernel_rfl) ?_
    intro g12 w13 hg17 hz16 hb14 hk15
    have hs_w13 := hb14.size
    have hlt_ : ∀ q, (Value.slice A4 out.length c4).ownBlock = some q → q < w_.heap.size := fun q hq => (Kd.R_bound hR4).1 q hq |>.2.2.1
    have hout_ : out.length ≤ at_ := by omega
    refine rw_append_one .u8 5 w.heap.size rfl rfl rfl (.tmp 15) (.tmp 24) rfl rfl 22 32 24 rfl (by kernel_rfl) info22 (by decide) rfl rfl (Kd.R_below hR4 (chain hB10 hb14)) hk15 (hL11.on hb14) (fun q hq => ⟨by omega, fun h => by have := hlt_ q h.symm; omega⟩) (chain (chain hBw_ hB10) hb14) (by omega) (by omega) ?_
    intro A18 c19 w20 hR21 hB22 hG23
    have hs_w20 := hB22.size
    have hgs_w20 := hG23.size
    refine rw_val (v := .slice A18 ((out ++ [((b.take (at_ + wholeP (b.drop at_))).drop (at_ + 8))]).length) c19) (w' := w20) rfl rfl rfl rfl rfl ?_
    refine rw_end ?_
    refine w_weaken (G' := [(0, .slice A0 b.length c0), (4, .slice A18 ((out ++ [((b.take (at_ + wholeP (b.drop at_))).drop (at_ + 8))]).length) c19), (5, .int .i64 (at_ : Int)), (6, .int .i64 ((wholeP (b.drop at_) : Nat) : Int))]) ⟨rfl, rfl, rfl, rfl, trivial⟩ ?_
    refine w_region ?_
    refine rw_val (v := .int .i64 (at_ : Int)) (w' := w20) rfl rfl rfl rfl rfl ?_
    refine rw_val (v := .int .i64 ((wholeP (b.drop at_) : Nat) : Int)) (w' := w20) rfl rfl rfl rfl rfl ?_
    refine rw_val (v := .int .i64 ((at_ + wholeP (b.drop at_) : Nat) : Int)) (w' := w20) rfl rfl rfl rfl (by simp [go_sem, sEv, sLook, nbeq, i64_w, -List.length_flatten]; exact wrap_id (by omega) (by omega)) ?_
    refine rw_val (v := .int .i64 ((at_ + wholeP (b.drop at_) : Nat) : Int)) (w' := w20) rfl rfl rfl rfl rfl ?_
    refine rw_end ?_
    refine w_weaken (G' := [(0, .slice A0 b.length c0), (4, .slice A18 ((out ++ [((b.take (at_ + wholeP (b.drop at_))).drop (at_ + 8))]).length) c19), (5, .int .i64 ((at_ + wholeP (b.drop at_) : Nat) : Int)), (6, .int .i64 ((wholeP (b.drop at_) : Nat) : Int))]) ⟨rfl, rfl, rfl, rfl, trivial⟩ ?_
    refine w_blk ?_
    refine w_region ?_
    refine rw_val (v := .slice A0 b.length c0) (w' := w20) rfl rfl rfl rfl rfl ?_
    refine rw_val (v := .int .i64 ((at_ + wholeP (b.drop at_) : Nat) : Int)) (w' := w20) rfl rfl rfl rfl rfl ?_
    have hP24 := (from_C hC (at_ + wholeP (b.drop at_)) (by omega) (show b.length ≤ c0 by have q_ := hc; have q2_ : b.length = b.length := rfl; omega))
    have hc25 : (b.drop (at_ + wholeP (b.drop at_))).length ≤ (c0 - (at_ + wholeP (b.drop at_))) := by have q_ := hc; have q2_ : b.length = b.length := rfl; simp only [List.length_take, List.length_drop]; omega
    refine rw_val (v := .slice (adr A0 c0 (at_ + wholeP (b.drop at_))) ((b.drop (at_ + wholeP (b.drop at_))).length) (c0 - (at_ + wholeP (b.drop at_)))) (w' := w20) rfl rfl rfl rfl (run_as (run_from (e := 5) (by kernel_rfl) (fun _ => by kernel_rfl) (at_ + wholeP (b.drop at_)) _ (by first | rfl | (simp; done) | omega) rfl (by omega) hc _)) ?_
    refine rw_call rfl rfl rfl rfl (f := 49) (args := #[.slice (adr A0 c0 (at_ + wholeP (b.drop at_))) ((b.drop (at_ + wholeP (b.drop at_))).length) (c0 - (at_ + wholeP (b.drop at_)))]) (by simp [go_sem, sEv, sLook, nbeq, i64_w, -List.length_flatten]) (whole_calls w20 _ _ (b.drop (at_ + wholeP (b.drop at_))) (Kd.C_below hP24 hB22) hc25 (hb.drop _) (by simp only [List.length_drop]; omega)) ?_
    rintro e_ w26 ⟨rfl, hb27⟩
    refine ⟨_, rfl, ?_⟩
    have hs_w26 := hb27.size
    refine rw_val (v := .int .i64 ((wholeP (b.drop (at_ + wholeP (b.drop at_))) : Nat) : Int)) (w' := w26) rfl rfl rfl rfl rfl ?_
    refine rw_end ?_
    refine w_weaken (G' := [(0, .slice A0 b.length c0), (4, .slice A18 ((out ++ [((b.take (at_ + wholeP (b.drop at_))).drop (at_ + 8))]).length) c19), (5, .int .i64 ((at_ + wholeP (b.drop at_) : Nat) : Int)), (6, .int .i64 ((wholeP (b.drop (at_ + wholeP (b.drop at_))) : Nat) : Int))]) ⟨rfl, rfl, rfl, rfl, trivial⟩ ?_
    have e1_ : (b.drop at_).drop (wholeP (b.drop at_)) = b.drop (at_ + wholeP (b.drop at_)) := by rw [List.drop_drop]
    have e2_ : ((b.drop at_).take (wholeP (b.drop at_))).drop 8 = ((b.take (at_ + wholeP (b.drop at_))).drop (at_ + 8)) := by rw [List.drop_take, List.drop_take, List.drop_drop]; congr 1; omega
    exact w_back (m_ - wholeP (b.drop at_)) [(0, .slice A0 b.length c0), (4, .slice A18 (out ++ [((b.take (at_ + wholeP (b.drop at_))).drop (at_ + 8))]).length c19), (5, .int .i64 ((at_ + wholeP (b.drop at_) : Nat) : Int)), (6, .int .i64 ((wholeP (b.drop (at_ + wholeP (b.drop at_))) : Nat) : Int))] (by omega) ⟨rfl, rfl, rfl, rfl, trivial⟩ ⟨(at_ + wholeP (b.drop at_)), out ++ [((b.take (at_ + wholeP (b.drop at_))).drop (at_ + 8))], _, _, by omega, by simp only [List.length_append, List.length_singleton]; omega, (chain hB22 hb27), (Kd.R_below hR21 hb27), fun l n h => by have h2_ := hS_ _ _ (SplitR.some _ l n (by omega) (by rw [e1_]; exact h)); rw [e2_] at h2_; simpa [Nat.add_assoc] using h2_, rfl⟩
  · refine w_exit rfl ?_
    refine w_seq ?_
    refine w_region ?_
    refine rw_val (v := .slice A4 out.length c4) (w' := w_) rfl rfl rfl rfl rfl ?_
    refine rw_val (v := .int .i64 (at_ : Int)) (w' := w_) rfl rfl rfl rfl rfl ?_
    refine rw_val (v := .slice A4 out.length c4) (w' := w_) rfl rfl rfl rfl rfl ?_
    refine rw_val (v := .int .i64 (at_ : Int)) (w' := w_) rfl rfl rfl rfl rfl ?_
    refine rw_end ?_
    refine w_weaken (G' := [(2, .slice A4 out.length c4), (3, .int .i64 (at_ : Int))]) ⟨rfl, rfl, trivial⟩ ?_
    have lp_ := of_decide_eq_false cL
    refine w_ret (post_ret2 rfl rfl rfl ?_)
    exact ⟨_, _, _, _, rfl, by simpa using hS_ _ _ (SplitR.none _ (by omega)), Kd.R_below hR4 (Below.refl _ _), hBw_⟩
end Go.Proofs.Ytiiljpaedelhlaa.PDiaryPlays
