/- How many bytes the frame has that bytes begin with: the walk. -/
import Derived.Test.YtjndoihnpnmbjaaFrPlain2
import Derived.Test.YtjndoihnpnmbjaaFlowL
import Derived.Test.YtjndoihnpnmbjaaFlowI
import Derived.Test.YtjndoihnpnmbjaaFrAlive
namespace Go.Proofs.Ytjndoihnpnmbjaa.PFrameSums
open Go.RowKit Go.Proofs.YtjndoihnpnmbjaaW.PrintWords Go.Proofs.YtjndoihnpnmbjaaW.PrintLast Go.Proofs.YtjndoihnpnmbjaaW.PrintMore
open Go.Proofs.Ytjndoihnpnmbjaa.Flow
set_option linter.unusedVariables false
set_option linter.unusedSimpArgs false


theorem high_calls (w : World) (A0 : Option Addr) (c0 : Nat) (l : List Int) (hr : (Kd.int .u8).C w A0 l.length l) (hc : l.length ≤ c0) (hb : Bytes l) (hl : l.length ≤ 8) : Calls Try.prog 41 #[.slice A0 l.length c0] w fun e w' => e = .returned (.int .u64 ((valN l : Nat) : Int)) ∧ Drawn0 w w' :=
  frame_high.calls 9 A0 c0 l _ w hr hc (high_f l hb hl 9 (by omega))
set_option maxHeartbeats 4000000 in
theorem whole_calls (w : World) (A0 : Option Addr) (c0 : Nat) (b : List Int) (hC : (Kd.int .u8).C w A0 b.length b) (hc : b.length ≤ c0) (hb : Bytes b) (hl : b.length ≤ 140737488355328) :
    Calls Try.prog 37 #[.slice A0 b.length c0] w fun e w' => e = .returned (.int .i64 ((wholeP b : Nat) : Int)) ∧ Below w.heap.size w w' := by
  refine calls_flow Try.func37 rfl 35 rfl (Nat.le_of_ble_eq_true rfl) [(0, .slice A0 b.length c0)] ?_ ?_
  · intro t v h; exact args_look rfl t v h
  refine w_seq ?_
  refine w_region ?_
  refine rw_val (v := .int .i64 0) (w' := w) rfl rfl rfl rfl rfl ?_
  refine rw_end ?_
  refine w_seq ?_
  refine w_seq ?_
  refine w_region ?_
  refine rw_val (v := .slice A0 b.length c0) (w' := w) rfl rfl rfl rfl rfl ?_
  refine rw_val (v := .int .i64 (b.length : Int)) (w' := w) rfl rfl rfl rfl (by simp [go_sem, sEv, sLook, nbeq, i64_w, -List.length_flatten]) ?_
  refine rw_val (v := .bool (decide ((b.length : Int) < 8))) (w' := w) rfl rfl rfl rfl (by simp [go_sem, sEv, sLook, nbeq, i64_w, -List.length_flatten]) ?_
  refine rw_end ?_
  refine w_cond rfl rfl (fun c8 => ?_) (fun c8 => ?_)
  · refine w_seq ?_
    refine w_region ?_
    refine rw_val (v := .int .i64 0) (w' := w) rfl rfl rfl rfl rfl ?_
    refine rw_end ?_
    refine w_ret (post_ret1 rfl rfl ?_)
    have e_ : wholeP b = 0 := by
      unfold wholeP
      have c8_ := of_decide_eq_true c8
      rw [if_pos (by omega)]
    exact ⟨by rw [e_]; rfl, (Below.refl _ _)⟩
  · refine w_skip ?_
    refine w_seq ?_
    refine w_region ?_
    refine rw_val (v := .slice A0 b.length c0) (w' := w) rfl rfl rfl rfl rfl ?_
    have c8_ := of_decide_eq_false c8
    have l4_ : (b.take 4).length = 4 := by rw [List.length_take]; omega
    have n4_ : valN (b.take 4) < 4294967296 := by have h_ := valN_lt (b.take 4) (hb.take 4); rw [l4_] at h_; exact h_
    have hP1 := (to_C hC 4 (by omega))
    have hc2 : (b.take 4).length ≤ c0 := by have q_ := hc; have q2_ : b.length = b.length := rfl; simp only [List.length_take, List.length_drop]; omega
    refine rw_val (v := .slice A0 ((b.take 4).length) c0) (w' := w) rfl rfl rfl rfl (run_as (run_to (e := 5) (by kernel_rfl) (fun _ => by kernel_rfl) 4 _ (by first | rfl | (simp; done) | omega) rfl (by omega) hc _)) ?_
    refine rw_call rfl rfl rfl rfl (f := 41) (args := #[.slice A0 ((b.take 4).length) c0]) (by simp [go_sem, sEv, sLook, nbeq, i64_w, -List.length_flatten]) (high_calls w _ _ (b.take 4) (Kd.C_below hP1 (Below.refl _ _)) hc2 (hb.take _) (by simp only [List.length_take, List.length_drop]; omega)) ?_
    rintro e_ w3 ⟨rfl, hb4_⟩
    refine ⟨_, rfl, ?_⟩
    have hb4 := hb4_.below
    have hs_w3 := hb4.size
    refine rw_val (v := .int .i64 ((valN (b.take 4) : Nat) : Int)) (w' := w3) rfl rfl rfl rfl (by simp [go_sem, sEv, sLook, nbeq, i64_w, -List.length_flatten]; exact wrap_id (by omega) (by omega)) ?_
    refine rw_val (v := .int .i64 ((valN (b.take 4) : Nat) : Int)) (w' := w3) rfl rfl rfl rfl rfl ?_
    refine rw_end ?_
    refine w_weaken (G' := [(0, .slice A0 b.length c0), (2, .int .i64 0), (3, .int .i64 ((valN (b.take 4) : Nat) : Int))]) ⟨rfl, rfl, rfl, trivial⟩ ?_
    refine w_seq ?_
    refine w_seq ?_
    rcases bcase (decide (16376 < ((valN (b.take 4) : Nat) : Int))) with cM | cM
    · rcases bcase (decide (((b.length : Int) - 8) < ((valN (b.take 4) : Nat) : Int))) with cL | cL
      · refine w_draw (M := [0, 1, 3, 7, 7, 23, 55, 127, 255, 511, 1023, 1023, 3071, 8191, 16383, 32767, 65535, 1023, 132095, 458751, 1048575, 2097151]) (ss := [Is (.int .i64 ((valN (b.take 4) : Nat) : Int)), Is (.bool (decide (16376 < ((valN (b.take 4) : Nat) : Int)))), Is (.bool (decide (16376 < ((valN (b.take 4) : Nat) : Int)))), Is (.int .i64 ((valN (b.take 4) : Nat) : Int)), Is (.slice A0 b.length c0), Is (.int .i64 (b.length : Int)), Is (.int .i64 ((b.length : Int) - 8)), Is (.bool (decide (((b.length : Int) - 8) < ((valN (b.take 4) : Nat) : Int)))), Is (.bool (decide (((b.length : Int) - 8) < ((valN (b.take 4) : Nat) : Int)))), Is (.bool (decide (((b.length : Int) - 8) < ((valN (b.take 4) : Nat) : Int)))), Is (.slice A0 b.length c0), Is (.int .i64 ((valN (b.take 4) : Nat) : Int)), Is (.int .i64 ((8 + valN (b.take 4) : Nat) : Int)), Is (.slice (adr A0 c0 8) (((b.take (8 + valN (b.take 4))).drop 8).length) (c0 - 8)), SlcSpec w3.heap.size 22 #[.slice (adr A0 c0 8) (((b.take (8 + valN (b.take 4))).drop 8).length) (c0 - 8)] 1, (Is (.int .u32 (fnv 2166136261 ([((b.take (8 + valN (b.take 4))).drop 8)]).flatten))), Is (.int .u64 (fnv 2166136261 ((b.take (8 + valN (b.take 4))).drop 8))), Is (.slice A0 b.length c0), Is (.slice (adr A0 c0 4) (((b.take 8).drop 4).length) (c0 - 4)), (Is (.int .u64 ((valN ((b.take 8).drop 4) : Nat) : Int))), Is (.bool ((fnv 2166136261 ((b.take (8 + valN (b.take 4))).drop 8)) != ((valN ((b.take 8).drop 4) : Nat) : Int))), Is (.bool ((fnv 2166136261 ((b.take (8 + valN (b.take 4))).drop 8)) != ((valN ((b.take 8).drop 4) : Nat) : Int)))]) rfl (by decide +kernel) ?_
        refine t_is (.int .i64 ((valN (b.take 4) : Nat) : Int)) rfl rfl rfl rfl (fun W_ hW_ F_ => rfl) ?_
        refine t_is (.bool (decide (16376 < ((valN (b.take 4) : Nat) : Int)))) rfl rfl rfl rfl (fun W_ hW_ F_ => by simp [go_sem, sEv, sLook, nbeq, i64_w, -List.length_flatten]) ?_
        refine t_is (.bool (decide (16376 < ((valN (b.take 4) : Nat) : Int)))) rfl rfl rfl rfl (fun W_ hW_ F_ => rfl) ?_
        refine t_gis (c := decide (16376 < ((valN (b.take 4) : Nat) : Int))) (.int .i64 ((valN (b.take 4) : Nat) : Int)) rfl rfl rfl (by first | (rw [cM]; rfl) | simp [cM]) rfl rfl rfl (fun W_ hW_ F_ => rfl) ?_
        refine t_gis (c := decide (16376 < ((valN (b.take 4) : Nat) : Int))) (.slice A0 b.length c0) rfl rfl rfl (by first | (rw [cM]; rfl) | simp [cM]) rfl rfl rfl (fun W_ hW_ F_ => rfl) ?_
        refine t_gis (c := decide (16376 < ((valN (b.take 4) : Nat) : Int))) (.int .i64 (b.length : Int)) rfl rfl rfl (by first | (rw [cM]; rfl) | simp [cM]) rfl rfl rfl (fun W_ hW_ F_ => by simp [go_sem, sEv, sLook, nbeq, i64_w, -List.length_flatten]) ?_
        refine t_gis (c := decide (16376 < ((valN (b.take 4) : Nat) : Int))) (.int .i64 ((b.length : Int) - 8)) rfl rfl rfl (by first | (rw [cM]; rfl) | simp [cM]) rfl rfl rfl (fun W_ hW_ F_ => by simp [go_sem, sEv, sLook, nbeq, i64_w, -List.length_flatten]; exact wrap_id (by omega) (by omega)) ?_
        refine t_gis (c := decide (16376 < ((valN (b.take 4) : Nat) : Int))) (.bool (decide (((b.length : Int) - 8) < ((valN (b.take 4) : Nat) : Int)))) rfl rfl rfl (by first | (rw [cM]; rfl) | simp [cM]) rfl rfl rfl (fun W_ hW_ F_ => by simp [go_sem, sEv, sLook, nbeq, i64_w, -List.length_flatten]) ?_
        refine t_is (.bool (decide (((b.length : Int) - 8) < ((valN (b.take 4) : Nat) : Int)))) rfl rfl rfl rfl (fun W_ hW_ F_ => by first | (simp [go_sem, sEv, sLook, nbeq, i64_w, -List.length_flatten, cM]; done) | (simp [go_sem, sEv, sLook, nbeq, i64_w, -List.length_flatten] <;> omega) | (simp [go_sem, sEv, sLook, nbeq, i64_w, -List.length_flatten]; intro h_; exact absurd (by omega) h_) | (rw [cM])) ?_
        refine t_is (.bool (decide (((b.length : Int) - 8) < ((valN (b.take 4) : Nat) : Int)))) rfl rfl rfl rfl (fun W_ hW_ F_ => rfl) ?_
        refine t_gis (c := decide (((b.length : Int) - 8) < ((valN (b.take 4) : Nat) : Int))) (.slice A0 b.length c0) rfl rfl rfl (by first | (rw [cL]; rfl) | simp [cL]) rfl rfl rfl (fun W_ hW_ F_ => rfl) ?_
        refine t_gis (c := decide (((b.length : Int) - 8) < ((valN (b.take 4) : Nat) : Int))) (.int .i64 ((valN (b.take 4) : Nat) : Int)) rfl rfl rfl (by first | (rw [cL]; rfl) | simp [cL]) rfl rfl rfl (fun W_ hW_ F_ => rfl) ?_
        refine t_gis (c := decide (((b.length : Int) - 8) < ((valN (b.take 4) : Nat) : Int))) (.int .i64 ((8 + valN (b.take 4) : Nat) : Int)) rfl rfl rfl (by first | (rw [cL]; rfl) | simp [cL]) rfl rfl rfl (fun W_ hW_ F_ => by simp [go_sem, sEv, sLook, nbeq, i64_w, -List.length_flatten]; exact wrap_id (by omega) (by omega)) ?_
        have cL_ := of_decide_eq_false cL
        have cM_ := of_decide_eq_false cM
        have hP5 := (mid_C hC 8 (8 + valN (b.take 4)) (by omega) (by omega) (show b.length ≤ c0 by have q_ := hc; have q2_ : b.length = b.length := rfl; omega))
        have hc6 : ((b.take (8 + valN (b.take 4))).drop 8).length ≤ (c0 - 8) := by have q_ := hc; have q2_ : b.length = b.length := rfl; simp only [List.length_take, List.length_drop]; omega
        refine t_gis (c := decide (((b.length : Int) - 8) < ((valN (b.take 4) : Nat) : Int))) (.slice (adr A0 c0 8) (((b.take (8 + valN (b.take 4))).drop 8).length) (c0 - 8)) rfl rfl rfl (by first | (rw [cL]; rfl) | simp [cL]) rfl rfl rfl (fun W_ hW_ F_ => (run_as (run_mid (e := 5) (by kernel_rfl) (fun _ => by kernel_rfl) 8 (8 + valN (b.take 4)) _ _ (by first | rfl | (simp; done) | omega) (by first | rfl | (simp; done) | omega) rfl (by omega) (by omega) hc _))) ?_
        refine t_gval (c := decide (((b.length : Int) - 8) < ((valN (b.take 4) : Nat) : Int))) (SlcSpec w3.heap.size 22 #[.slice (adr A0 c0 8) (((b.take (8 + valN (b.take 4))).drop 8).length) (c0 - 8)] 1) rfl rfl rfl (by first | (rw [cL]; rfl) | simp [cL]) rfl rfl rfl (fun W_ hW_ F_ => slc_gives _ _ _ _ (below_of_drew hW_).size (by kernel_rfl)) ?_
        rintro _ ⟨g7, rfl⟩
        refine t_gcall (c := decide (((b.length : Int) - 8) < ((valN (b.take 4) : Nat) : Int))) (f := 20) (args := #[.slice (some ⟨g7, 0, none⟩) 1 1]) (Is (.int .u32 (fnv 2166136261 ([((b.take (8 + valN (b.take 4))).drop 8)]).flatten))) rfl rfl rfl (by first | (rw [cL]; rfl) | simp [cL]) rfl rfl rfl (fun W_ => by simp [go_sem, sEv, sLook, nbeq, i64_w, -List.length_flatten]) (fun W_ hW_ F_ => ?_) ?_
        · refine (frame_Sum.calls (2 * [((b.take (8 + valN (b.take 4))).drop 8)].length + 1 + [((b.take (8 + valN (b.take 4))).drop 8)].flatten.length) _ 1 [((b.take (8 + valN (b.take 4))).drop 8)] _ W_ (rows1 (e := 5) (slc_fact (F_ 14 _ _ rfl rfl)).2 hc6 (Kd.C_below hP5 (chain hb4 (below_of_drew hW_)))) (by simp) (sum_f _ (by simp) (by simp only [List.mem_cons, List.not_mem_nil, or_false, forall_eq, List.length_take, List.length_drop]; omega) _ (Nat.le_refl _))).mono ?_
          rintro e_ w_ ⟨rfl, hd_⟩
          exact ⟨_, rfl, rfl, hd_.below⟩
        rintro _ rfl
        refine t_gis (c := decide (((b.length : Int) - 8) < ((valN (b.take 4) : Nat) : Int))) (.int .u64 (fnv 2166136261 ((b.take (8 + valN (b.take 4))).drop 8))) rfl rfl rfl (by first | (rw [cL]; rfl) | simp [cL]) rfl rfl rfl (fun W_ hW_ F_ => by simp [go_sem, sEv, sLook, nbeq, i64_w, -List.length_flatten]; have hf_ := fnv_range ((b.take (8 + valN (b.take 4))).drop 8) 2166136261 (by omega); rw [u64_wrap]; omega) ?_
        refine t_gis (c := decide (((b.length : Int) - 8) < ((valN (b.take 4) : Nat) : Int))) (.slice A0 b.length c0) rfl rfl rfl (by first | (rw [cL]; rfl) | simp [cL]) rfl rfl rfl (fun W_ hW_ F_ => rfl) ?_
        have hP10 := (mid_C hC 4 8 (by omega) (by omega) (show b.length ≤ c0 by have q_ := hc; have q2_ : b.length = b.length := rfl; omega))
        have hc11 : ((b.take 8).drop 4).length ≤ (c0 - 4) := by have q_ := hc; have q2_ : b.length = b.length := rfl; simp only [List.length_take, List.length_drop]; omega
        refine t_gis (c := decide (((b.length : Int) - 8) < ((valN (b.take 4) : Nat) : Int))) (.slice (adr A0 c0 4) (((b.take 8).drop 4).length) (c0 - 4)) rfl rfl rfl (by first | (rw [cL]; rfl) | simp [cL]) rfl rfl rfl (fun W_ hW_ F_ => (run_as (run_mid (e := 5) (by kernel_rfl) (fun _ => by kernel_rfl) 4 8 _ _ (by first | rfl | (simp; done) | omega) (by first | rfl | (simp; done) | omega) rfl (by omega) (by omega) hc _))) ?_
        refine t_gcall (c := decide (((b.length : Int) - 8) < ((valN (b.take 4) : Nat) : Int))) (f := 41) (args := #[.slice (adr A0 c0 4) (((b.take 8).drop 4).length) (c0 - 4)]) (Is (.int .u64 ((valN ((b.take 8).drop 4) : Nat) : Int))) rfl rfl rfl (by first | (rw [cL]; rfl) | simp [cL]) rfl rfl rfl (fun W_ => by simp [go_sem, sEv, sLook, nbeq, i64_w, -List.length_flatten]) (fun W_ hW_ F_ => ?_) ?_
        · refine (high_calls W_ _ _ ((b.take 8).drop 4) (Kd.C_below hP10 (chain hb4 (below_of_drew hW_))) hc11 ((hb.take _).drop _) (by simp only [List.length_take, List.length_drop]; omega)).mono ?_
          rintro e_ w_ ⟨rfl, hd_⟩
          exact ⟨_, rfl, rfl, hd_.below⟩
        rintro _ rfl
        refine t_gis (c := decide (((b.length : Int) - 8) < ((valN (b.take 4) : Nat) : Int))) (.bool ((fnv 2166136261 ((b.take (8 + valN (b.take 4))).drop 8)) != ((valN ((b.take 8).drop 4) : Nat) : Int))) rfl rfl rfl (by first | (rw [cL]; rfl) | simp [cL]) rfl rfl rfl (fun W_ hW_ F_ => by simp [go_sem, sEv, sLook, nbeq, i64_w, -List.length_flatten]) ?_
        refine t_is (.bool ((fnv 2166136261 ((b.take (8 + valN (b.take 4))).drop 8)) != ((valN ((b.take 8).drop 4) : Nat) : Int))) rfl rfl rfl rfl (fun W_ hW_ F_ => by first | (simp [go_sem, sEv, sLook, nbeq, i64_w, -List.length_flatten, cL]; done) | (simp [go_sem, sEv, sLook, nbeq, i64_w, -List.length_flatten] <;> omega) | (simp [go_sem, sEv, sLook, nbeq, i64_w, -List.length_flatten]; intro h_; exact absurd (by omega) h_) | (rw [cL])) ?_
        refine t_end ?_
        intro w12 hb13_ F14
        have hb13 := below_of_drew hb13_
        have hs_w12 := hb13.size
        refine w_weaken (G' := [(2, .int .i64 0), (3, .int .i64 ((valN (b.take 4) : Nat) : Int)), (32, .bool ((fnv 2166136261 ((b.take (8 + valN (b.take 4))).drop 8)) != ((valN ((b.take 8).drop 4) : Nat) : Int)))]) ⟨rfl, rfl, rfl, trivial⟩ ?_
        refine w_cond rfl rfl (fun cS => ?_) (fun cS => ?_)
        · refine w_seq ?_
          refine w_region ?_
          refine rw_val (v := .int .i64 0) (w' := w12) rfl rfl rfl rfl rfl ?_
          refine rw_end ?_
          refine w_ret (post_ret1 rfl rfl ?_)
          have e_ : wholeP b = 0 := by
            unfold wholeP
            have c8_ := of_decide_eq_false c8
            rw [if_neg (by omega)]
            have cM_ := of_decide_eq_false cM
            rw [if_neg (by omega)]
            have cL_ := of_decide_eq_false cL
            rw [if_neg (by omega)]
            have eX_ : ((b.take (8 + valN (b.take 4))).drop 8) = (b.drop 8).take (valN (b.take 4)) := (by rw [List.drop_take]; congr 1; omega)
            rw [eX_] at cS
            rw [if_neg (by simpa using cS)]
          exact ⟨by rw [e_]; rfl, (chain hb4 hb13)⟩
        · refine w_skip ?_
          refine w_seq ?_
          refine w_region ?_
          refine rw_val (v := .int .i64 ((valN (b.take 4) : Nat) : Int)) (w' := w12) rfl rfl rfl rfl rfl ?_
          refine rw_val (v := .int .i64 ((8 + valN (b.take 4) : Nat) : Int)) (w' := w12) rfl rfl rfl rfl (by simp [go_sem, sEv, sLook, nbeq, i64_w, -List.length_flatten]; exact wrap_id (by omega) (by omega)) ?_
          refine rw_val (v := .int .i64 ((8 + valN (b.take 4) : Nat) : Int)) (w' := w12) rfl rfl rfl rfl rfl ?_
          refine rw_end ?_
          refine w_ret (post_ret1 rfl rfl ?_)
          have e_ : wholeP b = 8 + valN (b.take 4) := by
            unfold wholeP
            have c8_ := of_decide_eq_false c8
            rw [if_neg (by omega)]
            have cM_ := of_decide_eq_false cM
            rw [if_neg (by omega)]
            have cL_ := of_decide_eq_false cL
            rw [if_neg (by omega)]
            have eX_ : ((b.take (8 + valN (b.take 4))).drop 8) = (b.drop 8).take (valN (b.take 4)) := (by rw [List.drop_take]; congr 1; omega)
            rw [eX_] at cS
            rw [if_pos (by simpa using cS)]
          exact ⟨by rw [e_], (chain hb4 hb13)⟩
      · refine w_draw (M := [0, 1, 3, 7, 7, 23, 55, 127, 255, 511, 1023, 1023, 3071, 8191, 16383, 32767, 65535, 1023, 132095, 458751, 1048575, 2097151]) (ss := [Is (.int .i64 ((valN (b.take 4) : Nat) : Int)), Is (.bool (decide (16376 < ((valN (b.take 4) : Nat) : Int)))), Is (.bool (decide (16376 < ((valN (b.take 4) : Nat) : Int)))), Is (.int .i64 ((valN (b.take 4) : Nat) : Int)), Is (.slice A0 b.length c0), Is (.int .i64 (b.length : Int)), Is (.int .i64 ((b.length : Int) - 8)), Is (.bool (decide (((b.length : Int) - 8) < ((valN (b.take 4) : Nat) : Int)))), Is (.bool (decide (((b.length : Int) - 8) < ((valN (b.take 4) : Nat) : Int)))), Is (.bool (decide (((b.length : Int) - 8) < ((valN (b.take 4) : Nat) : Int)))), Is undef, Is undef, Is undef, Is undef, Is undef, Is undef, Is undef, Is undef, Is undef, Is undef, Is undef, Is (.bool true)]) rfl (by decide +kernel) ?_
        refine t_is (.int .i64 ((valN (b.take 4) : Nat) : Int)) rfl rfl rfl rfl (fun W_ hW_ F_ => rfl) ?_
        refine t_is (.bool (decide (16376 < ((valN (b.take 4) : Nat) : Int)))) rfl rfl rfl rfl (fun W_ hW_ F_ => by simp [go_sem, sEv, sLook, nbeq, i64_w, -List.length_flatten]) ?_
        refine t_is (.bool (decide (16376 < ((valN (b.take 4) : Nat) : Int)))) rfl rfl rfl rfl (fun W_ hW_ F_ => rfl) ?_
        refine t_gis (c := decide (16376 < ((valN (b.take 4) : Nat) : Int))) (.int .i64 ((valN (b.take 4) : Nat) : Int)) rfl rfl rfl (by first | (rw [cM]; rfl) | simp [cM]) rfl rfl rfl (fun W_ hW_ F_ => rfl) ?_
        refine t_gis (c := decide (16376 < ((valN (b.take 4) : Nat) : Int))) (.slice A0 b.length c0) rfl rfl rfl (by first | (rw [cM]; rfl) | simp [cM]) rfl rfl rfl (fun W_ hW_ F_ => rfl) ?_
        refine t_gis (c := decide (16376 < ((valN (b.take 4) : Nat) : Int))) (.int .i64 (b.length : Int)) rfl rfl rfl (by first | (rw [cM]; rfl) | simp [cM]) rfl rfl rfl (fun W_ hW_ F_ => by simp [go_sem, sEv, sLook, nbeq, i64_w, -List.length_flatten]) ?_
        refine t_gis (c := decide (16376 < ((valN (b.take 4) : Nat) : Int))) (.int .i64 ((b.length : Int) - 8)) rfl rfl rfl (by first | (rw [cM]; rfl) | simp [cM]) rfl rfl rfl (fun W_ hW_ F_ => by simp [go_sem, sEv, sLook, nbeq, i64_w, -List.length_flatten]; exact wrap_id (by omega) (by omega)) ?_
        refine t_gis (c := decide (16376 < ((valN (b.take 4) : Nat) : Int))) (.bool (decide (((b.length : Int) - 8) < ((valN (b.take 4) : Nat) : Int)))) rfl rfl rfl (by first | (rw [cM]; rfl) | simp [cM]) rfl rfl rfl (fun W_ hW_ F_ => by simp [go_sem, sEv, sLook, nbeq, i64_w, -List.length_flatten]) ?_
        refine t_is (.bool (decide (((b.length : Int) - 8) < ((valN (b.take 4) : Nat) : Int)))) rfl rfl rfl rfl (fun W_ hW_ F_ => by first | (simp [go_sem, sEv, sLook, nbeq, i64_w, -List.length_flatten, cM]; done) | (simp [go_sem, sEv, sLook, nbeq, i64_w, -List.length_flatten] <;> omega) | (simp [go_sem, sEv, sLook, nbeq, i64_w, -List.length_flatten]; intro h_; exact absurd (by omega) h_) | (rw [cM])) ?_
        refine t_is (.bool (decide (((b.length : Int) - 8) < ((valN (b.take 4) : Nat) : Int)))) rfl rfl rfl rfl (fun W_ hW_ F_ => rfl) ?_
        refine t_off (c := decide (((b.length : Int) - 8) < ((valN (b.take 4) : Nat) : Int))) rfl rfl rfl (by first | (rw [cL]; rfl) | simp [cL]) rfl rfl ?_
        refine t_off (c := decide (((b.length : Int) - 8) < ((valN (b.take 4) : Nat) : Int))) rfl rfl rfl (by first | (rw [cL]; rfl) | simp [cL]) rfl rfl ?_
        refine t_off (c := decide (((b.length : Int) - 8) < ((valN (b.take 4) : Nat) : Int))) rfl rfl rfl (by first | (rw [cL]; rfl) | simp [cL]) rfl rfl ?_
        refine t_off (c := decide (((b.length : Int) - 8) < ((valN (b.take 4) : Nat) : Int))) rfl rfl rfl (by first | (rw [cL]; rfl) | simp [cL]) rfl rfl ?_
        refine t_off (c := decide (((b.length : Int) - 8) < ((valN (b.take 4) : Nat) : Int))) rfl rfl rfl (by first | (rw [cL]; rfl) | simp [cL]) rfl rfl ?_
        refine t_off (c := decide (((b.length : Int) - 8) < ((valN (b.take 4) : Nat) : Int))) rfl rfl rfl (by first | (rw [cL]; rfl) | simp [cL]) rfl rfl ?_
        refine t_off (c := decide (((b.length : Int) - 8) < ((valN (b.take 4) : Nat) : Int))) rfl rfl rfl (by first | (rw [cL]; rfl) | simp [cL]) rfl rfl ?_
        refine t_off (c := decide (((b.length : Int) - 8) < ((valN (b.take 4) : Nat) : Int))) rfl rfl rfl (by first | (rw [cL]; rfl) | simp [cL]) rfl rfl ?_
        refine t_off (c := decide (((b.length : Int) - 8) < ((valN (b.take 4) : Nat) : Int))) rfl rfl rfl (by first | (rw [cL]; rfl) | simp [cL]) rfl rfl ?_
        refine t_off (c := decide (((b.length : Int) - 8) < ((valN (b.take 4) : Nat) : Int))) rfl rfl rfl (by first | (rw [cL]; rfl) | simp [cL]) rfl rfl ?_
        refine t_off (c := decide (((b.length : Int) - 8) < ((valN (b.take 4) : Nat) : Int))) rfl rfl rfl (by first | (rw [cL]; rfl) | simp [cL]) rfl rfl ?_
        refine t_is (.bool true) rfl rfl rfl rfl (fun W_ hW_ F_ => by first | (simp [go_sem, sEv, sLook, nbeq, i64_w, -List.length_flatten, cL]; done) | (simp [go_sem, sEv, sLook, nbeq, i64_w, -List.length_flatten] <;> omega) | (simp [go_sem, sEv, sLook, nbeq, i64_w, -List.length_flatten]; intro h_; exact absurd (by omega) h_) | (rw [cL])) ?_
        refine t_end ?_
        intro w15 hb16_ F17
        have hb16 := below_of_drew hb16_
        have hs_w15 := hb16.size
        refine w_weaken (G' := [(2, .int .i64 0), (3, .int .i64 ((valN (b.take 4) : Nat) : Int)), (32, .bool true)]) ⟨rfl, rfl, rfl, trivial⟩ ?_
        refine w_cond_t rfl rfl rfl ?_
        refine w_seq ?_
        refine w_region ?_
        refine rw_val (v := .int .i64 0) (w' := w15) rfl rfl rfl rfl rfl ?_
        refine rw_end ?_
        refine w_ret (post_ret1 rfl rfl ?_)
        have e_ : wholeP b = 0 := by
          unfold wholeP
          have c8_ := of_decide_eq_false c8
          rw [if_neg (by omega)]
          have cM_ := of_decide_eq_false cM
          rw [if_neg (by omega)]
          have cL_ := of_decide_eq_true cL
          rw [if_pos (by omega)]
        exact ⟨by rw [e_]; rfl, (chain hb4 hb16)⟩
    · refine w_draw (M := [0, 1, 3, 7, 7, 23, 55, 127, 255, 511, 1023, 1023, 3071, 8191, 16383, 32767, 65535, 1023, 132095, 458751, 1048575, 2097151]) (ss := [Is (.int .i64 ((valN (b.take 4) : Nat) : Int)), Is (.bool (decide (16376 < ((valN (b.take 4) : Nat) : Int)))), Is (.bool (decide (16376 < ((valN (b.take 4) : Nat) : Int)))), Is undef, Is undef, Is undef, Is undef, Is undef, Is (.bool true), Is (.bool true), Is undef, Is undef, Is undef, Is undef, Is undef, Is undef, Is undef, Is undef, Is undef, Is undef, Is undef, Is (.bool true)]) rfl (by decide +kernel) ?_
      refine t_is (.int .i64 ((valN (b.take 4) : Nat) : Int)) rfl rfl rfl rfl (fun W_ hW_ F_ => rfl) ?_
      refine t_is (.bool (decide (16376 < ((valN (b.take 4) : Nat) : Int)))) rfl rfl rfl rfl (fun W_ hW_ F_ => by simp [go_sem, sEv, sLook, nbeq, i64_w, -List.length_flatten]) ?_
      refine t_is (.bool (decide (16376 < ((valN (b.take 4) : Nat) : Int)))) rfl rfl rfl rfl (fun W_ hW_ F_ => rfl) ?_
      refine t_off (c := decide (16376 < ((valN (b.take 4) : Nat) : Int))) rfl rfl rfl (by first | (rw [cM]; rfl) | simp [cM]) rfl rfl ?_
      refine t_off (c := decide (16376 < ((valN (b.take 4) : Nat) : Int))) rfl rfl rfl (by first | (rw [cM]; rfl) | simp [cM]) rfl rfl ?_
      refine t_off (c := decide (16376 < ((valN (b.take 4) : Nat) : Int))) rfl rfl rfl (by first | (rw [cM]; rfl) | simp [cM]) rfl rfl ?_
      refine t_off (c := decide (16376 < ((valN (b.take 4) : Nat) : Int))) rfl rfl rfl (by first | (rw [cM]; rfl) | simp [cM]) rfl rfl ?_
      refine t_off (c := decide (16376 < ((valN (b.take 4) : Nat) : Int))) rfl rfl rfl (by first | (rw [cM]; rfl) | simp [cM]) rfl rfl ?_
      refine t_is (.bool true) rfl rfl rfl rfl (fun W_ hW_ F_ => by first | (simp [go_sem, sEv, sLook, nbeq, i64_w, -List.length_flatten, cM]; done) | (simp [go_sem, sEv, sLook, nbeq, i64_w, -List.length_flatten] <;> omega) | (simp [go_sem, sEv, sLook, nbeq, i64_w, -List.length_flatten]; intro h_; exact absurd (by omega) h_) | (rw [cM])) ?_
      refine t_is (.bool true) rfl rfl rfl rfl (fun W_ hW_ F_ => rfl) ?_
      refine t_off (c := true) rfl rfl rfl rfl rfl rfl ?_
      refine t_off (c := true) rfl rfl rfl rfl rfl rfl ?_
      refine t_off (c := true) rfl rfl rfl rfl rfl rfl ?_
      refine t_off (c := true) rfl rfl rfl rfl rfl rfl ?_
      refine t_off (c := true) rfl rfl rfl rfl rfl rfl ?_
      refine t_off (c := true) rfl rfl rfl rfl rfl rfl ?_
      refine t_off (c := true) rfl rfl rfl rfl rfl rfl ?_
      refine t_off (c := true) rfl rfl rfl rfl rfl rfl ?_
      refine t_off (c := true) rfl rfl rfl rfl rfl rfl ?_
      refine t_off (c := true) rfl rfl rfl rfl rfl rfl ?_
      refine t_off (c := true) rfl rfl rfl rfl rfl rfl ?_
      refine t_is (.bool true) rfl rfl rfl rfl (fun W_ hW_ F_ => by simp [go_sem, sEv, sLook, nbeq, i64_w, -List.length_flatten]) ?_
      refine t_end ?_
      intro w18 hb19_ F20
      have hb19 := below_of_drew hb19_
      have hs_w18 := hb19.size
      refine w_weaken (G' := [(2, .int .i64 0), (3, .int .i64 ((valN (b.take 4) : Nat) : Int)), (32, .bool true)]) ⟨rfl, rfl, rfl, trivial⟩ ?_
      refine w_cond_t rfl rfl rfl ?_
      refine w_seq ?_
      refine w_region ?_
      refine rw_val (v := .int .i64 0) (w' := w18) rfl rfl rfl rfl rfl ?_
      refine rw_end ?_
      refine w_ret (post_ret1 rfl rfl ?_)
      have e_ : wholeP b = 0 := by
        unfold wholeP
        have c8_ := of_decide_eq_false c8
        rw [if_neg (by omega)]
        have cM_ := of_decide_eq_true cM
        rw [if_pos (by omega)]
      exact ⟨by rw [e_]; rfl, (chain hb4 hb19)⟩
end Go.Proofs.Ytjndoihnpnmbjaa.PFrameSums
