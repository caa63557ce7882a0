/- Parts of the proofs of noteForms_holds: FrWhole, FlowP, FrPlain3, NrUnw, FrTake, FrPlain7, FlowU, CeHist, FrRef3, FrPlain8, NrRUnw, FlowOR. -/
import Derived.Test.YtbbhdohjhipalaaQC2
section
namespace Go.Proofs.Ytbbhdohjhipalaa.PNoteReads
open Go.RowKit Go.Proofs.YtbbhdohjhipalaaW.PrintWords Go.Proofs.YtbbhdohjhipalaaW.PrintLast Go.Proofs.YtbbhdohjhipalaaW.PrintMore
open Go.Proofs.Ytbbhdohjhipalaa.Flow
set_option linter.unusedVariables false
set_option linter.unusedSimpArgs false
theorem high_calls (w : World) (A0 : Option Addr) (c0 : Nat) (l : List Int) (hr : (Kd.int .u8).C w A0 l.length l) (hc : l.length ≤ c0) (hb : Bytes l) (hl : l.length ≤ 8) : Calls Try.prog 64 #[.slice A0 l.length c0] w fun e w' => e = .returned (.int .u64 ((valN l : Nat) : Int)) ∧ Drawn0 w w' :=
  frame_high.calls 9 A0 c0 l _ w hr hc (high_f l hb hl 9 (by omega))
set_option maxHeartbeats 4000000 in
theorem whole_calls (w : World) (A0 : Option Addr) (c0 : Nat) (b : List Int) (hC : (Kd.int .u8).C w A0 b.length b) (hc : b.length ≤ c0) (hb : Bytes b) (hl : b.length ≤ 140737488355328) :
    Calls Try.prog 56 #[.slice A0 b.length c0] w fun e w' => e = .returned (.int .i64 ((wholeP b : Nat) : Int)) ∧ Below w.heap.size w w' := by
  refine calls_flow Try.func56 rfl 35 rfl (Nat.le_of_ble_eq_true rfl) [(0, .slice A0 b.length c0)] ?_ ?_
  · intro t v h; exact args_look rfl t v h
  refine wsr ?_
  refine rv (.int .i64 0) ?_
  refine rw_end ?_
  refine w_seq ?_
  refine wsr ?_
  refine rv (.slice A0 b.length c0) ?_
  refine rz (.int .i64 (b.length : Int)) (by simp [go_sem, sEv, sLook, nbeq, i64_w, -List.length_flatten]) ?_
  refine rz (.bool (decide ((b.length : Int) < 8))) (by simp [go_sem, sEv, sLook, nbeq, i64_w, -List.length_flatten]) ?_
  refine rw_end ?_
  refine w_cond rfl rfl (fun c8 => ?_) (fun c8 => ?_)
  · refine w_seq ?_
    refine w_region ?_
    refine rv (.int .i64 0) ?_
    refine rw_end ?_
    refine w_ret (post_ret1 rfl rfl ?_)
    have e_ : wholeP b = 0 := by
      unfold wholeP
      have c8_ := of_decide_eq_true c8
      rw [if_pos (by omega)]
    exact ⟨by rw [e_]; rfl, (Below.refl _ _)⟩
  · refine w_skip ?_
    refine wsr ?_
    refine rv (.slice A0 b.length c0) ?_
    have c8_ := of_decide_eq_false c8
    have l4_ : (b.take 4).length = 4 := by rw [List.length_take]; omega
    have n4_ : valN (b.take 4) < 4294967296 := by have h_ := valN_lt (b.take 4) (hb.take 4); rw [l4_] at h_; exact h_
    have hP1 := (to_C hC 4 (by omega))
    have hc2 : (b.take 4).length ≤ c0 := by have q_ := hc; have q2_ : b.length = b.length := rfl; simp only [List.length_take, List.length_drop]; omega
    refine rz (.slice A0 ((b.take 4).length) c0) (run_as (run_to (e := 5) (by kernel_rfl) (fun _ => by kernel_rfl) 4 _ (by first | rfl | (simp; done) | omega) rfl (by omega) hc _)) ?_
    refine rw_call rfl rfl rfl rfl (f := 64) (args := #[.slice A0 ((b.take 4).length) c0]) (by simp [go_sem, sEv, sLook, nbeq, i64_w, -List.length_flatten]) (high_calls w _ _ (b.take 4) (Kd.C_below hP1 (Below.refl _ _)) hc2 (hb.take _) (by simp only [List.length_take, List.length_drop]; omega)) ?_
    rintro e_ w3 ⟨rfl, hb4_⟩
    refine ⟨_, rfl, ?_⟩
    have hb4 := hb4_.below
    have hs_w3 := hb4.size
    refine rz (.int .i64 ((valN (b.take 4) : Nat) : Int)) (by simp [go_sem, sEv, sLook, nbeq, i64_w, -List.length_flatten]; exact wrap_id (by omega) (by omega)) ?_
    refine rv (.int .i64 ((valN (b.take 4) : Nat) : Int)) ?_
    refine rw_end ?_
    refine w_weaken (G' := [(0, .slice A0 b.length c0), (2, .int .i64 0), (3, .int .i64 ((valN (b.take 4) : Nat) : Int))]) ⟨rfl, rfl, rfl, trivial⟩ ?_
    refine w_seq ?_
    refine w_seq ?_
    rcases bcase (decide (16376 < ((valN (b.take 4) : Nat) : Int))) with cM | cM
    · rcases bcase (decide (((b.length : Int) - 8) < ((valN (b.take 4) : Nat) : Int))) with cL | cL
      · refine w_draw (M := [0, 1, 3, 7, 7, 23, 55, 127, 255, 511, 1023, 1023, 3071, 8191, 16383, 32767, 65535, 1023, 132095, 458751, 1048575, 2097151]) (ss := [Is (.int .i64 ((valN (b.take 4) : Nat) : Int)), Is (.bool (decide (16376 < ((valN (b.take 4) : Nat) : Int)))), Is (.bool (decide (16376 < ((valN (b.take 4) : Nat) : Int)))), Is (.int .i64 ((valN (b.take 4) : Nat) : Int)), Is (.slice A0 b.length c0), Is (.int .i64 (b.length : Int)), Is (.int .i64 ((b.length : Int) - 8)), Is (.bool (decide (((b.length : Int) - 8) < ((valN (b.take 4) : Nat) : Int)))), Is (.bool (decide (((b.length : Int) - 8) < ((valN (b.take 4) : Nat) : Int)))), Is (.bool (decide (((b.length : Int) - 8) < ((valN (b.take 4) : Nat) : Int)))), Is (.slice A0 b.length c0), Is (.int .i64 ((valN (b.take 4) : Nat) : Int)), Is (.int .i64 ((8 + valN (b.take 4) : Nat) : Int)), Is (.slice (adr A0 c0 8) (((b.take (8 + valN (b.take 4))).drop 8).length) (c0 - 8)), SlcSpec w3.heap.size 30 #[.slice (adr A0 c0 8) (((b.take (8 + valN (b.take 4))).drop 8).length) (c0 - 8)] 1, (Is (.int .u32 (fnv 2166136261 ([((b.take (8 + valN (b.take 4))).drop 8)]).flatten))), Is (.int .u64 (fnv 2166136261 ((b.take (8 + valN (b.take 4))).drop 8))), Is (.slice A0 b.length c0), Is (.slice (adr A0 c0 4) (((b.take 8).drop 4).length) (c0 - 4)), (Is (.int .u64 ((valN ((b.take 8).drop 4) : Nat) : Int))), Is (.bool ((fnv 2166136261 ((b.take (8 + valN (b.take 4))).drop 8)) != ((valN ((b.take 8).drop 4) : Nat) : Int))), Is (.bool ((fnv 2166136261 ((b.take (8 + valN (b.take 4))).drop 8)) != ((valN ((b.take 8).drop 4) : Nat) : Int)))]) rfl (by decide +kernel) ?_
        refine tr (.int .i64 ((valN (b.take 4) : Nat) : Int)) ?_
        refine t_is (.bool (decide (16376 < ((valN (b.take 4) : Nat) : Int)))) rfl rfl rfl rfl (fun W_ hW_ F_ => by simp [go_sem, sEv, sLook, nbeq, i64_w, -List.length_flatten]) ?_
        refine tr (.bool (decide (16376 < ((valN (b.take 4) : Nat) : Int)))) ?_
        refine t_gis (c := decide (16376 < ((valN (b.take 4) : Nat) : Int))) (.int .i64 ((valN (b.take 4) : Nat) : Int)) rfl rfl rfl (by first | (rw [cM]; rfl) | simp [cM]) rfl rfl rfl (fun W_ hW_ F_ => rfl) ?_
        refine t_gis (c := decide (16376 < ((valN (b.take 4) : Nat) : Int))) (.slice A0 b.length c0) rfl rfl rfl (by first | (rw [cM]; rfl) | simp [cM]) rfl rfl rfl (fun W_ hW_ F_ => rfl) ?_
        refine t_gis (c := decide (16376 < ((valN (b.take 4) : Nat) : Int))) (.int .i64 (b.length : Int)) rfl rfl rfl (by first | (rw [cM]; rfl) | simp [cM]) rfl rfl rfl (fun W_ hW_ F_ => by simp [go_sem, sEv, sLook, nbeq, i64_w, -List.length_flatten]) ?_
        refine t_gis (c := decide (16376 < ((valN (b.take 4) : Nat) : Int))) (.int .i64 ((b.length : Int) - 8)) rfl rfl rfl (by first | (rw [cM]; rfl) | simp [cM]) rfl rfl rfl (fun W_ hW_ F_ => by simp [go_sem, sEv, sLook, nbeq, i64_w, -List.length_flatten]; exact wrap_id (by omega) (by omega)) ?_
        refine t_gis (c := decide (16376 < ((valN (b.take 4) : Nat) : Int))) (.bool (decide (((b.length : Int) - 8) < ((valN (b.take 4) : Nat) : Int)))) rfl rfl rfl (by first | (rw [cM]; rfl) | simp [cM]) rfl rfl rfl (fun W_ hW_ F_ => by simp [go_sem, sEv, sLook, nbeq, i64_w, -List.length_flatten]) ?_
        refine t_is (.bool (decide (((b.length : Int) - 8) < ((valN (b.take 4) : Nat) : Int)))) rfl rfl rfl rfl (fun W_ hW_ F_ => by first | (simp [go_sem, sEv, sLook, nbeq, i64_w, -List.length_flatten, cM]; done) | (simp [go_sem, sEv, sLook, nbeq, i64_w, -List.length_flatten] <;> omega) | (simp [go_sem, sEv, sLook, nbeq, i64_w, -List.length_flatten]; intro h_; exact absurd (by omega) h_) | (rw [cM]; simp [go_sem, sEv, sLook, nbeq, i64_w, -List.length_flatten]; done)) ?_
        refine tr (.bool (decide (((b.length : Int) - 8) < ((valN (b.take 4) : Nat) : Int)))) ?_
        refine t_gis (c := decide (((b.length : Int) - 8) < ((valN (b.take 4) : Nat) : Int))) (.slice A0 b.length c0) rfl rfl rfl (by first | (rw [cL]; rfl) | simp [cL]) rfl rfl rfl (fun W_ hW_ F_ => rfl) ?_
        refine t_gis (c := decide (((b.length : Int) - 8) < ((valN (b.take 4) : Nat) : Int))) (.int .i64 ((valN (b.take 4) : Nat) : Int)) rfl rfl rfl (by first | (rw [cL]; rfl) | simp [cL]) rfl rfl rfl (fun W_ hW_ F_ => rfl) ?_
        refine t_gis (c := decide (((b.length : Int) - 8) < ((valN (b.take 4) : Nat) : Int))) (.int .i64 ((8 + valN (b.take 4) : Nat) : Int)) rfl rfl rfl (by first | (rw [cL]; rfl) | simp [cL]) rfl rfl rfl (fun W_ hW_ F_ => by simp [go_sem, sEv, sLook, nbeq, i64_w, -List.length_flatten]; exact wrap_id (by omega) (by omega)) ?_
        have cL_ := of_decide_eq_false cL
        have cM_ := of_decide_eq_false cM
        have hP5 := (mid_C hC 8 (8 + valN (b.take 4)) (by omega) (by omega) (show b.length ≤ c0 by have q_ := hc; have q2_ : b.length = b.length := rfl; omega))
        have hc6 : ((b.take (8 + valN (b.take 4))).drop 8).length ≤ (c0 - 8) := by have q_ := hc; have q2_ : b.length = b.length := rfl; simp only [List.length_take, List.length_drop]; omega
        refine t_gis (c := decide (((b.length : Int) - 8) < ((valN (b.take 4) : Nat) : Int))) (.slice (adr A0 c0 8) (((b.take (8 + valN (b.take 4))).drop 8).length) (c0 - 8)) rfl rfl rfl (by first | (rw [cL]; rfl) | simp [cL]) rfl rfl rfl (fun W_ hW_ F_ => (run_as (run_mid (e := 5) (by kernel_rfl) (fun _ => by kernel_rfl) 8 (8 + valN (b.take 4)) _ _ (by first | rfl | (simp; done) | omega) (by first | rfl | (simp; done) | omega) rfl (by omega) (by omega) hc _))) ?_
        refine t_gval (c := decide (((b.length : Int) - 8) < ((valN (b.take 4) : Nat) : Int))) (SlcSpec w3.heap.size 30 #[.slice (adr A0 c0 8) (((b.take (8 + valN (b.take 4))).drop 8).length) (c0 - 8)] 1) rfl rfl rfl (by first | (rw [cL]; rfl) | simp [cL]) rfl rfl rfl (fun W_ hW_ F_ => slc_gives _ _ _ _ (below_of_drew hW_).size (by kernel_rfl)) ?_
        rintro _ ⟨g7, rfl⟩
        refine t_gcall (c := decide (((b.length : Int) - 8) < ((valN (b.take 4) : Nat) : Int))) (f := 47) (args := #[.slice (some ⟨g7, 0, none⟩) 1 1]) (Is (.int .u32 (fnv 2166136261 ([((b.take (8 + valN (b.take 4))).drop 8)]).flatten))) rfl rfl rfl (by first | (rw [cL]; rfl) | simp [cL]) rfl rfl rfl (fun W_ => by simp [go_sem, sEv, sLook, nbeq, i64_w, -List.length_flatten]) (fun W_ hW_ F_ => ?_) ?_
        · refine (frame_Sum.calls (2 * [((b.take (8 + valN (b.take 4))).drop 8)].length + 1 + [((b.take (8 + valN (b.take 4))).drop 8)].flatten.length) _ 1 [((b.take (8 + valN (b.take 4))).drop 8)] _ W_ (rows1 (e := 5) (slc_fact (F_ 14 _ _ rfl rfl)).2 hc6 (Kd.C_below hP5 (chain hb4 (below_of_drew hW_)))) (by simp) (sum_f _ (by simp) (by simp only [List.mem_cons, List.not_mem_nil, or_false, forall_eq, List.length_take, List.length_drop]; omega) _ (Nat.le_refl _))).mono ?_
          rintro e_ w_ ⟨rfl, hd_⟩
          exact ⟨_, rfl, rfl, hd_.below⟩
        rintro _ rfl
        refine t_gis (c := decide (((b.length : Int) - 8) < ((valN (b.take 4) : Nat) : Int))) (.int .u64 (fnv 2166136261 ((b.take (8 + valN (b.take 4))).drop 8))) rfl rfl rfl (by first | (rw [cL]; rfl) | simp [cL]) rfl rfl rfl (fun W_ hW_ F_ => by simp [go_sem, sEv, sLook, nbeq, i64_w, -List.length_flatten]; have hf_ := fnv_range ((b.take (8 + valN (b.take 4))).drop 8) 2166136261 (by omega); rw [u64_wrap]; omega) ?_
        refine t_gis (c := decide (((b.length : Int) - 8) < ((valN (b.take 4) : Nat) : Int))) (.slice A0 b.length c0) rfl rfl rfl (by first | (rw [cL]; rfl) | simp [cL]) rfl rfl rfl (fun W_ hW_ F_ => rfl) ?_
        have hP10 := (mid_C hC 4 8 (by omega) (by omega) (show b.length ≤ c0 by have q_ := hc; have q2_ : b.length = b.length := rfl; omega))
        have hc11 : ((b.take 8).drop 4).length ≤ (c0 - 4) := by have q_ := hc; have q2_ : b.length = b.length := rfl; simp only [List.length_take, List.length_drop]; omega
        refine t_gis (c := decide (((b.length : Int) - 8) < ((valN (b.take 4) : Nat) : Int))) (.slice (adr A0 c0 4) (((b.take 8).drop 4).length) (c0 - 4)) rfl rfl rfl (by first | (rw [cL]; rfl) | simp [cL]) rfl rfl rfl (fun W_ hW_ F_ => (run_as (run_mid (e := 5) (by kernel_rfl) (fun _ => by kernel_rfl) 4 8 _ _ (by first | rfl | (simp; done) | omega) (by first | rfl | (simp; done) | omega) rfl (by omega) (by omega) hc _))) ?_
        refine t_gcall (c := decide (((b.length : Int) - 8) < ((valN (b.take 4) : Nat) : Int))) (f := 64) (args := #[.slice (adr A0 c0 4) (((b.take 8).drop 4).length) (c0 - 4)]) (Is (.int .u64 ((valN ((b.take 8).drop 4) : Nat) : Int))) rfl rfl rfl (by first | (rw [cL]; rfl) | simp [cL]) rfl rfl rfl (fun W_ => by simp [go_sem, sEv, sLook, nbeq, i64_w, -List.length_flatten]) (fun W_ hW_ F_ => ?_) ?_
        · refine (high_calls W_ _ _ ((b.take 8).drop 4) (Kd.C_below hP10 (chain hb4 (below_of_drew hW_))) hc11 ((hb.take _).drop _) (by simp only [List.length_take, List.length_drop]; omega)).mono ?_
          rintro e_ w_ ⟨rfl, hd_⟩
          exact ⟨_, rfl, rfl, hd_.below⟩
        rintro _ rfl
        refine t_gis (c := decide (((b.length : Int) - 8) < ((valN (b.take 4) : Nat) : Int))) (.bool ((fnv 2166136261 ((b.take (8 + valN (b.take 4))).drop 8)) != ((valN ((b.take 8).drop 4) : Nat) : Int))) rfl rfl rfl (by first | (rw [cL]; rfl) | simp [cL]) rfl rfl rfl (fun W_ hW_ F_ => by simp [go_sem, sEv, sLook, nbeq, i64_w, -List.length_flatten]) ?_
        refine t_is (.bool ((fnv 2166136261 ((b.take (8 + valN (b.take 4))).drop 8)) != ((valN ((b.take 8).drop 4) : Nat) : Int))) rfl rfl rfl rfl (fun W_ hW_ F_ => by first | (simp [go_sem, sEv, sLook, nbeq, i64_w, -List.length_flatten, cL]; done) | (simp [go_sem, sEv, sLook, nbeq, i64_w, -List.length_flatten] <;> omega) | (simp [go_sem, sEv, sLook, nbeq, i64_w, -List.length_flatten]; intro h_; exact absurd (by omega) h_) | (rw [cL]; simp [go_sem, sEv, sLook, nbeq, i64_w, -List.length_flatten]; done)) ?_
        refine t_end ?_
        intro w12 hb13_ F14
        have hb13 := below_of_drew hb13_
        have hs_w12 := hb13.size
        refine w_weaken (G' := [(2, .int .i64 0), (3, .int .i64 ((valN (b.take 4) : Nat) : Int)), (32, .bool ((fnv 2166136261 ((b.take (8 + valN (b.take 4))).drop 8)) != ((valN ((b.take 8).drop 4) : Nat) : Int)))]) ⟨rfl, rfl, rfl, trivial⟩ ?_
        refine w_cond rfl rfl (fun cS => ?_) (fun cS => ?_)
        · refine w_seq ?_
          refine w_region ?_
          refine rv (.int .i64 0) ?_
          refine rw_end ?_
          refine w_ret (post_ret1 rfl rfl ?_)
          have e_ : wholeP b = 0 := by
            unfold wholeP
            have c8_ := of_decide_eq_false c8
            rw [if_neg (by omega)]
            have cM_ := of_decide_eq_false cM
            rw [if_neg (by omega)]
            have cL_ := of_decide_eq_false cL
            rw [if_neg (by omega)]
            have eX_ : ((b.take (8 + valN (b.take 4))).drop 8) = (b.drop 8).take (valN (b.take 4)) := (by rw [List.drop_take]; congr 1; omega)
            rw [eX_] at cS
            rw [if_neg (by simpa using cS)]
          exact ⟨by rw [e_]; rfl, (chain hb4 hb13)⟩
        · refine w_skip ?_
          refine wsr ?_
          refine rv (.int .i64 ((valN (b.take 4) : Nat) : Int)) ?_
          refine rz (.int .i64 ((8 + valN (b.take 4) : Nat) : Int)) (by simp [go_sem, sEv, sLook, nbeq, i64_w, -List.length_flatten]; exact wrap_id (by omega) (by omega)) ?_
          refine rv (.int .i64 ((8 + valN (b.take 4) : Nat) : Int)) ?_
          refine rw_end ?_
          refine w_ret (post_ret1 rfl rfl ?_)
          have e_ : wholeP b = 8 + valN (b.take 4) := by
            unfold wholeP
            have c8_ := of_decide_eq_false c8
            rw [if_neg (by omega)]
            have cM_ := of_decide_eq_false cM
            rw [if_neg (by omega)]
            have cL_ := of_decide_eq_false cL
            rw [if_neg (by omega)]
            have eX_ : ((b.take (8 + valN (b.take 4))).drop 8) = (b.drop 8).take (valN (b.take 4)) := (by rw [List.drop_take]; congr 1; omega)
            rw [eX_] at cS
            rw [if_pos (by simpa using cS)]
          exact ⟨by rw [e_], (chain hb4 hb13)⟩
      · refine w_draw (M := [0, 1, 3, 7, 7, 23, 55, 127, 255, 511, 1023, 1023, 3071, 8191, 16383, 32767, 65535, 1023, 132095, 458751, 1048575, 2097151]) (ss := [Is (.int .i64 ((valN (b.take 4) : Nat) : Int)), Is (.bool (decide (16376 < ((valN (b.take 4) : Nat) : Int)))), Is (.bool (decide (16376 < ((valN (b.take 4) : Nat) : Int)))), Is (.int .i64 ((valN (b.take 4) : Nat) : Int)), Is (.slice A0 b.length c0), Is (.int .i64 (b.length : Int)), Is (.int .i64 ((b.length : Int) - 8)), Is (.bool (decide (((b.length : Int) - 8) < ((valN (b.take 4) : Nat) : Int)))), Is (.bool (decide (((b.length : Int) - 8) < ((valN (b.take 4) : Nat) : Int)))), Is (.bool (decide (((b.length : Int) - 8) < ((valN (b.take 4) : Nat) : Int)))), Is undef, Is undef, Is undef, Is undef, Is undef, Is undef, Is undef, Is undef, Is undef, Is undef, Is undef, Is (.bool true)]) rfl (by decide +kernel) ?_
        refine tr (.int .i64 ((valN (b.take 4) : Nat) : Int)) ?_
        refine t_is (.bool (decide (16376 < ((valN (b.take 4) : Nat) : Int)))) rfl rfl rfl rfl (fun W_ hW_ F_ => by simp [go_sem, sEv, sLook, nbeq, i64_w, -List.length_flatten]) ?_
        refine tr (.bool (decide (16376 < ((valN (b.take 4) : Nat) : Int)))) ?_
        refine t_gis (c := decide (16376 < ((valN (b.take 4) : Nat) : Int))) (.int .i64 ((valN (b.take 4) : Nat) : Int)) rfl rfl rfl (by first | (rw [cM]; rfl) | simp [cM]) rfl rfl rfl (fun W_ hW_ F_ => rfl) ?_
        refine t_gis (c := decide (16376 < ((valN (b.take 4) : Nat) : Int))) (.slice A0 b.length c0) rfl rfl rfl (by first | (rw [cM]; rfl) | simp [cM]) rfl rfl rfl (fun W_ hW_ F_ => rfl) ?_
        refine t_gis (c := decide (16376 < ((valN (b.take 4) : Nat) : Int))) (.int .i64 (b.length : Int)) rfl rfl rfl (by first | (rw [cM]; rfl) | simp [cM]) rfl rfl rfl (fun W_ hW_ F_ => by simp [go_sem, sEv, sLook, nbeq, i64_w, -List.length_flatten]) ?_
        refine t_gis (c := decide (16376 < ((valN (b.take 4) : Nat) : Int))) (.int .i64 ((b.length : Int) - 8)) rfl rfl rfl (by first | (rw [cM]; rfl) | simp [cM]) rfl rfl rfl (fun W_ hW_ F_ => by simp [go_sem, sEv, sLook, nbeq, i64_w, -List.length_flatten]; exact wrap_id (by omega) (by omega)) ?_
        refine t_gis (c := decide (16376 < ((valN (b.take 4) : Nat) : Int))) (.bool (decide (((b.length : Int) - 8) < ((valN (b.take 4) : Nat) : Int)))) rfl rfl rfl (by first | (rw [cM]; rfl) | simp [cM]) rfl rfl rfl (fun W_ hW_ F_ => by simp [go_sem, sEv, sLook, nbeq, i64_w, -List.length_flatten]) ?_
        refine t_is (.bool (decide (((b.length : Int) - 8) < ((valN (b.take 4) : Nat) : Int)))) rfl rfl rfl rfl (fun W_ hW_ F_ => by first | (simp [go_sem, sEv, sLook, nbeq, i64_w, -List.length_flatten, cM]; done) | (simp [go_sem, sEv, sLook, nbeq, i64_w, -List.length_flatten] <;> omega) | (simp [go_sem, sEv, sLook, nbeq, i64_w, -List.length_flatten]; intro h_; exact absurd (by omega) h_) | (rw [cM]; simp [go_sem, sEv, sLook, nbeq, i64_w, -List.length_flatten]; done)) ?_
        refine tr (.bool (decide (((b.length : Int) - 8) < ((valN (b.take 4) : Nat) : Int)))) ?_
        refine t_off (c := decide (((b.length : Int) - 8) < ((valN (b.take 4) : Nat) : Int))) rfl rfl rfl (by first | (rw [cL]; rfl) | simp [cL]) rfl rfl ?_
        refine t_off (c := decide (((b.length : Int) - 8) < ((valN (b.take 4) : Nat) : Int))) rfl rfl rfl (by first | (rw [cL]; rfl) | simp [cL]) rfl rfl ?_
        refine t_off (c := decide (((b.length : Int) - 8) < ((valN (b.take 4) : Nat) : Int))) rfl rfl rfl (by first | (rw [cL]; rfl) | simp [cL]) rfl rfl ?_
        refine t_off (c := decide (((b.length : Int) - 8) < ((valN (b.take 4) : Nat) : Int))) rfl rfl rfl (by first | (rw [cL]; rfl) | simp [cL]) rfl rfl ?_
        refine t_off (c := decide (((b.length : Int) - 8) < ((valN (b.take 4) : Nat) : Int))) rfl rfl rfl (by first | (rw [cL]; rfl) | simp [cL]) rfl rfl ?_
        refine t_off (c := decide (((b.length : Int) - 8) < ((valN (b.take 4) : Nat) : Int))) rfl rfl rfl (by first | (rw [cL]; rfl) | simp [cL]) rfl rfl ?_
        refine t_off (c := decide (((b.length : Int) - 8) < ((valN (b.take 4) : Nat) : Int))) rfl rfl rfl (by first | (rw [cL]; rfl) | simp [cL]) rfl rfl ?_
        refine t_off (c := decide (((b.length : Int) - 8) < ((valN (b.take 4) : Nat) : Int))) rfl rfl rfl (by first | (rw [cL]; rfl) | simp [cL]) rfl rfl ?_
        refine t_off (c := decide (((b.length : Int) - 8) < ((valN (b.take 4) : Nat) : Int))) rfl rfl rfl (by first | (rw [cL]; rfl) | simp [cL]) rfl rfl ?_
        refine t_off (c := decide (((b.length : Int) - 8) < ((valN (b.take 4) : Nat) : Int))) rfl rfl rfl (by first | (rw [cL]; rfl) | simp [cL]) rfl rfl ?_
        refine t_off (c := decide (((b.length : Int) - 8) < ((valN (b.take 4) : Nat) : Int))) rfl rfl rfl (by first | (rw [cL]; rfl) | simp [cL]) rfl rfl ?_
        refine t_is (.bool true) rfl rfl rfl rfl (fun W_ hW_ F_ => by first | (simp [go_sem, sEv, sLook, nbeq, i64_w, -List.length_flatten, cL]; done) | (simp [go_sem, sEv, sLook, nbeq, i64_w, -List.length_flatten] <;> omega) | (simp [go_sem, sEv, sLook, nbeq, i64_w, -List.length_flatten]; intro h_; exact absurd (by omega) h_) | (rw [cL]; simp [go_sem, sEv, sLook, nbeq, i64_w, -List.length_flatten]; done)) ?_
        refine t_end ?_
        intro w15 hb16_ F17
        have hb16 := below_of_drew hb16_
        have hs_w15 := hb16.size
        refine w_weaken (G' := [(2, .int .i64 0), (3, .int .i64 ((valN (b.take 4) : Nat) : Int)), (32, .bool true)]) ⟨rfl, rfl, rfl, trivial⟩ ?_
        refine w_cond_t rfl rfl rfl ?_
        refine wsr ?_
        refine rv (.int .i64 0) ?_
        refine rw_end ?_
        refine w_ret (post_ret1 rfl rfl ?_)
        have e_ : wholeP b = 0 := by
          unfold wholeP
          have c8_ := of_decide_eq_false c8
          rw [if_neg (by omega)]
          have cM_ := of_decide_eq_false cM
          rw [if_neg (by omega)]
          have cL_ := of_decide_eq_true cL
          rw [if_pos (by omega)]
        exact ⟨by rw [e_]; rfl, (chain hb4 hb16)⟩
    · refine w_draw (M := [0, 1, 3, 7, 7, 23, 55, 127, 255, 511, 1023, 1023, 3071, 8191, 16383, 32767, 65535, 1023, 132095, 458751, 1048575, 2097151]) (ss := [Is (.int .i64 ((valN (b.take 4) : Nat) : Int)), Is (.bool (decide (16376 < ((valN (b.take 4) : Nat) : Int)))), Is (.bool (decide (16376 < ((valN (b.take 4) : Nat) : Int)))), Is undef, Is undef, Is undef, Is undef, Is undef, Is (.bool true), Is (.bool true), Is undef, Is undef, Is undef, Is undef, Is undef, Is undef, Is undef, Is undef, Is undef, Is undef, Is undef, Is (.bool true)]) rfl (by decide +kernel) ?_
      refine tr (.int .i64 ((valN (b.take 4) : Nat) : Int)) ?_
      refine t_is (.bool (decide (16376 < ((valN (b.take 4) : Nat) : Int)))) rfl rfl rfl rfl (fun W_ hW_ F_ => by simp [go_sem, sEv, sLook, nbeq, i64_w, -List.length_flatten]) ?_
      refine tr (.bool (decide (16376 < ((valN (b.take 4) : Nat) : Int)))) ?_
      refine t_off (c := decide (16376 < ((valN (b.take 4) : Nat) : Int))) rfl rfl rfl (by first | (rw [cM]; rfl) | simp [cM]) rfl rfl ?_
      refine t_off (c := decide (16376 < ((valN (b.take 4) : Nat) : Int))) rfl rfl rfl (by first | (rw [cM]; rfl) | simp [cM]) rfl rfl ?_
      refine t_off (c := decide (16376 < ((valN (b.take 4) : Nat) : Int))) rfl rfl rfl (by first | (rw [cM]; rfl) | simp [cM]) rfl rfl ?_
      refine t_off (c := decide (16376 < ((valN (b.take 4) : Nat) : Int))) rfl rfl rfl (by first | (rw [cM]; rfl) | simp [cM]) rfl rfl ?_
      refine t_off (c := decide (16376 < ((valN (b.take 4) : Nat) : Int))) rfl rfl rfl (by first | (rw [cM]; rfl) | simp [cM]) rfl rfl ?_
      refine t_is (.bool true) rfl rfl rfl rfl (fun W_ hW_ F_ => by first | (simp [go_sem, sEv, sLook, nbeq, i64_w, -List.length_flatten, cM]; done) | (simp [go_sem, sEv, sLook, nbeq, i64_w, -List.length_flatten] <;> omega) | (simp [go_sem, sEv, sLook, nbeq, i64_w, -List.length_flatten]; intro h_; exact absurd (by omega) h_) | (rw [cM]; simp [go_sem, sEv, sLook, nbeq, i64_w, -List.length_flatten]; done)) ?_
      refine tr (.bool true) ?_
      refine t_off (c := true) rfl rfl rfl rfl rfl rfl ?_
      refine t_off (c := true) rfl rfl rfl rfl rfl rfl ?_
      refine t_off (c := true) rfl rfl rfl rfl rfl rfl ?_
      refine t_off (c := true) rfl rfl rfl rfl rfl rfl ?_
      refine t_off (c := true) rfl rfl rfl rfl rfl rfl ?_
      refine t_off (c := true) rfl rfl rfl rfl rfl rfl ?_
      refine t_off (c := true) rfl rfl rfl rfl rfl rfl ?_
      refine t_off (c := true) rfl rfl rfl rfl rfl rfl ?_
      refine t_off (c := true) rfl rfl rfl rfl rfl rfl ?_
      refine t_off (c := true) rfl rfl rfl rfl rfl rfl ?_
      refine t_off (c := true) rfl rfl rfl rfl rfl rfl ?_
      refine t_is (.bool true) rfl rfl rfl rfl (fun W_ hW_ F_ => by simp [go_sem, sEv, sLook, nbeq, i64_w, -List.length_flatten]) ?_
      refine t_end ?_
      intro w18 hb19_ F20
      have hb19 := below_of_drew hb19_
      have hs_w18 := hb19.size
      refine w_weaken (G' := [(2, .int .i64 0), (3, .int .i64 ((valN (b.take 4) : Nat) : Int)), (32, .bool true)]) ⟨rfl, rfl, rfl, trivial⟩ ?_
      refine w_cond_t rfl rfl rfl ?_
      refine wsr ?_
      refine rv (.int .i64 0) ?_
      refine rw_end ?_
      refine w_ret (post_ret1 rfl rfl ?_)
      have e_ : wholeP b = 0 := by
        unfold wholeP
        have c8_ := of_decide_eq_false c8
        rw [if_neg (by omega)]
        have cM_ := of_decide_eq_true cM
        rw [if_pos (by omega)]
      exact ⟨by rw [e_]; rfl, (chain hb4 hb19)⟩
end Go.Proofs.Ytbbhdohjhipalaa.PNoteReads
end
section
namespace Go.Proofs.Ytbbhdohjhipalaa.Flow
open Go.RowKit Go.Proofs.YtbbhdohjhipalaaW.PrintWords Go.Proofs.YtbbhdohjhipalaaW.PrintLast Go.Proofs.YtbbhdohjhipalaaW.PrintMore
set_option linter.unusedVariables false
set_option linter.unusedSimpArgs false
structure Sh where
  nil : Bool
  g : Nat
  n : Nat
  c : Nat
def adrSh (s : Sh) : Option Addr := if s.nil = true then none else some ⟨s.g, 0, none⟩
def V (s : Sh) : Value := .slice (adrSh s) s.n s.c
section
variable {e : TypeId} {w w' : World} {s : Sh} {ys : List Int}
end
section
variable {P : Program} {cx : Cx} {n : Nat} {Q : Exit → Act → World → Prop} {st : List Itm} {G : Env} {w : World} {ops : Array Oper} {o : Oper} {rest : List Oper}
end
end Go.Proofs.Ytbbhdohjhipalaa.Flow
end
section
namespace Go.Proofs.Ytbbhdohjhipalaa.PNoteReads
open Go.RowKit Go.Proofs.YtbbhdohjhipalaaW.PrintWords Go.Proofs.YtbbhdohjhipalaaW.PrintLast Go.Proofs.YtbbhdohjhipalaaW.PrintMore
open Go.Proofs.Ytbbhdohjhipalaa.Flow
set_option linter.unusedVariables false
set_option linter.unusedSimpArgs false
theorem wholeP_le (b : List Int) : wholeP b = 0 ∨ (8 ≤ wholeP b ∧ wholeP b ≤ b.length) := by
  unfold wholeP
  split
  · exact Or.inl rfl
  · split
    · exact Or.inl rfl
    · split
      · exact Or.inl rfl
      · split
        · right
          omega
        · exact Or.inl rfl
end Go.Proofs.Ytbbhdohjhipalaa.PNoteReads
end
section
namespace Go.Proofs.Ytbbhdohjhipalaa.PNoteReads
open Go.RowKit Go.Proofs.YtbbhdohjhipalaaW.PrintWords Go.Proofs.YtbbhdohjhipalaaW.PrintLast Go.Proofs.YtbbhdohjhipalaaW.PrintMore
open Go.Proofs.Ytbbhdohjhipalaa.Flow
set_option linter.unusedVariables false
set_option linter.unusedSimpArgs false
def UN (b : List Int) : List Int := if wholeP b = 0 then [] else (b.take (wholeP b)).drop 8
def UR (b : List Int) : List Int := if wholeP b = 0 then [] else b.drop (wholeP b)
def UE (b : List Int) : Option Int := if wholeP b = 0 then some 3 else none
set_option maxHeartbeats 4000000 in
theorem unwrap_calls (w : World) (A0 : Option Addr) (c0 : Nat) (b : List Int) (hC : (Kd.int .u8).C w A0 b.length b) (hc : b.length ≤ c0) (hb : Bytes b) (hl : b.length ≤ 1000000) :
  Calls Try.prog 36 #[.slice A0 b.length c0] w fun e w' => ∃ A1 n1 c1 A2 n2 c2 m, e = .returned (.tuple #[.slice A1 n1 c1, .slice A2 n2 c2, errW (UE b)]) ∧ Own .u8 5 w' w.heap.size w.heap.size A1 n1 c1 (UN b) ∧ Own .u8 5 w' w.heap.size m A2 n2 c2 (UR b) ∧ (∀ q, (Value.slice A1 n1 c1).ownBlock = some q → q < m) ∧ w.heap.size ≤ m ∧ m ≤ w'.heap.size ∧ Below w.heap.size w w' := by
 refine calls_flow Try.func36 rfl 19 rfl (Nat.le_of_ble_eq_true rfl) [(0, .slice A0 b.length c0)] ?_ ?_
 ·
  intro t v h; exact args_look rfl t v h
 refine wsr ?_
 refine rv (.slice none 0 0) ?_
 refine rv (.slice none 0 0) ?_
 refine rv .nilIface ?_
 refine rw_end ?_
 refine wsr ?_
 refine rv (.slice A0 b.length c0) ?_
 refine rw_call rfl rfl rfl rfl (f := 56) (args := #[.slice A0 b.length c0]) (by simp [go_sem, sEv, sLook, nbeq, i64_w, -List.length_flatten]) (whole_calls w A0 c0 b hC hc hb (by omega)) ?_
 rintro e_ w1 ⟨rfl, hb2⟩
 refine ⟨_, rfl, ?_⟩
 have hs_w1 := hb2.size
 refine rv (.int .i64 ((wholeP b : Nat) : Int)) ?_
 refine rw_end ?_
 refine w_seq ?_
 refine wsr ?_
 refine rv (.int .i64 ((wholeP b : Nat) : Int)) ?_
 refine rz (.bool (((wholeP b : Nat) : Int) == 0)) (by simp [go_sem, sEv, sLook, nbeq, i64_w, -List.length_flatten]) ?_
 refine rw_end ?_
 refine w_cond rfl rfl (fun cZ => ?_) (fun cZ => ?_)
 ·
  refine wsr ?_
  refine rz (errW (some 3)) (by simp [go_sem, sEv, sLook, nbeq, i64_w, -List.length_flatten, errW_some]) ?_
  refine rv (.slice none 0 0) ?_
  refine rv (.slice none 0 0) ?_
  refine rv (errW (some 3)) ?_
  refine rw_end ?_
  refine w_weaken (G' := [(0, .slice A0 b.length c0), (2, .slice none 0 0), (3, .slice none 0 0), (4, errW (some 3)), (5, .int .i64 ((wholeP b : Nat) : Int))]) ⟨rfl, rfl, rfl, rfl, rfl, trivial⟩ ?_
  refine w_ret (post_ret3 rfl rfl rfl rfl ?_)
  have cZ_ : wholeP b = 0 := by simpa using cZ
  have e1_ : UN b = [] := by unfold UN; rw [if_pos cZ_]
  have e2_ : UR b = [] := by unfold UR; rw [if_pos cZ_]
  have e3_ : UE b = some 3 := by unfold UE; rw [if_pos cZ_]
  rw [e1_, e2_, e3_]
  exact ⟨none, 0, 0, none, 0, 0, w.heap.size, rfl, Own.nil _ _ _ _ _, Own.nil _ _ _ _ _, (fun q hq => by cases hq), Nat.le_refl _, by omega, hb2⟩
 ·
  refine w_skip ?_
  refine w_seq ?_
  have cZ_ : wholeP b ≠ 0 := by simpa using cZ
  have hwl_ := wholeP_le b
  refine w_drawk (M := [0, 0, 3, 7, 0, 0, 48, 127, 255, 511, 1023]) (ss := [Is (.slice A0 b.length c0), Is (.int .i64 ((wholeP b : Nat) : Int)), Is (.slice (adr A0 c0 8) (((b.take (wholeP b)).drop 8).length) (c0 - 8)), OwnSpec w.heap.size w1.heap.size ((b.take (wholeP b)).drop 8), Is (.slice A0 b.length c0), Is (.int .i64 ((wholeP b : Nat) : Int)), Is (.slice (adr A0 c0 (wholeP b)) ((b.drop (wholeP b)).length) (c0 - (wholeP b)))]) 7 rfl (by decide +kernel) ?_
  refine tr (.slice A0 b.length c0) ?_
  refine tr (.int .i64 ((wholeP b : Nat) : Int)) ?_
  have hP3 := (mid_C hC 8 (wholeP b) (by omega) (by omega) (show b.length ≤ c0 by have q_ := hc; have q2_ : b.length = b.length := rfl; omega))
  have hc4 : ((b.take (wholeP b)).drop 8).length ≤ (c0 - 8) := by have q_ := hc; have q2_ : b.length = b.length := rfl; simp only [List.length_take, List.length_drop]; omega
  refine t_is (.slice (adr A0 c0 8) (((b.take (wholeP b)).drop 8).length) (c0 - 8)) rfl rfl rfl rfl (fun W_ hW_ F_ => (run_as (run_mid (e := 5) (by kernel_rfl) (fun _ => by kernel_rfl) 8 (wholeP b) _ _ (by first | rfl | (simp; done) | omega) (by first | rfl | (simp; done) | omega) rfl (by omega) (by omega) hc _))) ?_
  refine t_call (f := 49) (args := #[.slice (adr A0 c0 8) (((b.take (wholeP b)).drop 8).length) (c0 - 8)]) (OwnSpec w.heap.size w1.heap.size ((b.take (wholeP b)).drop 8)) rfl rfl rfl rfl (fun W_ => by simp [go_sem, sEv, sLook, nbeq, i64_w, -List.length_flatten]) (fun W_ hW_ F_ => ?_) ?_
  ·
   have hs_ := (below_of_drew hW_).size
   refine (clone_calls W_ _ _ _ ((b.take (wholeP b)).drop 8) (Kd.C_below hP3 (chain hb2 (below_of_drew hW_))) (by simp only [List.length_drop, List.length_take]; omega)).mono ?_
   rintro e_ w_ ⟨A_, n_, c_, rfl, hO_, hb_⟩
   exact ⟨_, rfl, ⟨A_, n_, c_, rfl, hO_.lower (by omega) |>.mono hs_⟩, hb_⟩
  rintro _ ⟨A5, n6, c7, rfl⟩
  refine tr (.slice A0 b.length c0) ?_
  refine tr (.int .i64 ((wholeP b : Nat) : Int)) ?_
  have hP9 := (from_C hC (wholeP b) (by omega) (show b.length ≤ c0 by have q_ := hc; have q2_ : b.length = b.length := rfl; omega))
  have hc10 : (b.drop (wholeP b)).length ≤ (c0 - (wholeP b)) := by have q_ := hc; have q2_ : b.length = b.length := rfl; simp only [List.length_take, List.length_drop]; omega
  refine t_is (.slice (adr A0 c0 (wholeP b)) ((b.drop (wholeP b)).length) (c0 - (wholeP b))) rfl rfl rfl rfl (fun W_ hW_ F_ => (run_as (run_from (e := 5) (by kernel_rfl) (fun _ => by kernel_rfl) (wholeP b) _ (by first | rfl | (simp; done) | omega) rfl (by omega) hc _))) ?_
  refine t_tail ?_
  intro w11 hb12_ F13
  have hb12 := below_of_drew hb12_
  have hs_w11 := hb12.size
  have hO8 := ownspec_fact (F13 3 _ _ rfl)
  refine rw_call rfl rfl rfl rfl (f := 49) (args := #[.slice (adr A0 c0 (wholeP b)) ((b.drop (wholeP b)).length) (c0 - (wholeP b))]) (by simp [go_sem, sEv, sLook, nbeq, i64_w, -List.length_flatten]) (clone_calls w11 _ _ _ (b.drop (wholeP b)) (Kd.C_below hP9 (chain hb2 hb12)) (by simp only [List.length_drop, List.length_take]; omega)) ?_
  rintro e_ w17 ⟨A14, n15, c16, rfl, hO18, hB19⟩
  refine ⟨_, rfl, ?_⟩
  have hs_w17 := hB19.size
  have hL20 : Own .u8 5 w17 w.heap.size w11.heap.size A14 n15 c16 (b.drop (wholeP b)) := Own.lower hO18 (by omega)
  refine rv (.slice A5 n6 c7) ?_
  refine rv (.slice A14 n15 c16) ?_
  refine rv .nilIface ?_
  refine rw_end ?_
  refine w_weaken (G' := [(2, .slice A5 n6 c7), (3, .slice A14 n15 c16), (4, .nilIface)]) ⟨rfl, rfl, rfl, trivial⟩ ?_
  refine w_ret (post_ret3 rfl rfl rfl rfl ?_)
  have e1_ : UN b = ((b.take (wholeP b)).drop 8) := by unfold UN; rw [if_neg cZ_]
  have e2_ : UR b = b.drop (wholeP b) := by unfold UR; rw [if_neg cZ_]
  have e3_ : UE b = none := by unfold UE; rw [if_neg cZ_]
  rw [e1_, e2_, e3_]
  exact ⟨_, _, _, _, _, _, w11.heap.size, rfl, Own.mono (hO8.on hB19) (by omega), (hL20.on (Below.refl _ _)), (fun q hq => (Kd.R_bound (Own.on hO8 (Below.refl _ _))).1 q hq |>.2.2.1), by omega, by omega, (chain (chain hb2 hb12) hB19)⟩
end Go.Proofs.Ytbbhdohjhipalaa.PNoteReads
end
section
namespace Go.Proofs.Ytbbhdohjhipalaa.PNoteReads
open Go.RowKit Go.Proofs.YtbbhdohjhipalaaW.PrintWords Go.Proofs.YtbbhdohjhipalaaW.PrintLast Go.Proofs.YtbbhdohjhipalaaW.PrintMore
open Go.Proofs.Ytbbhdohjhipalaa.Flow
set_option linter.unusedVariables false
set_option linter.unusedSimpArgs false
set_option maxHeartbeats 4000000 in
theorem take_calls (w : World) (A0 : Option Addr) (c0 : Nat) (b : List Int) (hC : (Kd.int .u8).C w A0 b.length b) (hc : b.length ≤ c0) (hb : Bytes b) :
    Calls Try.prog 57 #[.slice A0 b.length c0] w fun e w' => e = .returned (.tuple #[.int .i64 (takeP b).1, .int .i64 (((takeP b).2 : Nat) : Int)]) ∧ Below w.heap.size w w' := by
  refine calls_flow Try.func57 rfl 45 rfl (Nat.le_of_ble_eq_true rfl) [(0, .slice A0 b.length c0)] ?_ ?_
  · intro t v h; exact args_look rfl t v h
  refine wsr ?_
  refine rv (.int .i64 0) ?_
  refine rv (.int .i64 0) ?_
  refine rw_end ?_
  refine w_seq ?_
  refine wsr ?_
  refine rv (.slice A0 b.length c0) ?_
  refine rz (.int .i64 (b.length : Int)) (by simp [go_sem, sEv, sLook, nbeq, i64_w, -List.length_flatten]) ?_
  refine rz (.bool ((b.length : Int) == 0)) (by simp [go_sem, sEv, sLook, nbeq, i64_w, -List.length_flatten]) ?_
  refine rv (.bool ((b.length : Int) == 0)) ?_
  rcases bcase ((b.length : Int) == 0) with cN | cN
  · refine rnk cN ?_
    refine rv (.slice A0 b.length c0) ?_
    refine rnk cN ?_
    have cN_ : b.length ≠ 0 := by simpa using cN
    obtain ⟨ad, hA_, hcell_⟩ := Kd.at_int hC 0 (by omega) (by omega)
    subst hA_
    rw [show (0 : Int).toNat = 0 from rfl, Flow.add_zero] at hcell_
    have hr_ := rd_range hb 0 (by omega)
    rw [show ((0 : Nat) : Int) = 0 from rfl] at hr_
    refine rz (.pointer (some ad)) (by have hp_ : 0 < b.length := (by omega); have hp2_ : b ≠ [] := (fun h_ => by rw [h_] at hp_; simp at hp_); first | (simp [go_sem, sEv, sLook, nbeq, i64_w, -List.length_flatten, Try.underlying30, Flow.add_zero, hp_]; done) | (simp [go_sem, sEv, sLook, nbeq, i64_w, -List.length_flatten, Try.underlying30, Flow.add_zero, hp2_]; done) | (simp [go_sem, sEv, sLook, nbeq, i64_w, -List.length_flatten, Try.underlying30, Flow.add_zero]; exact hp2_)) ?_
    refine rnk cN ?_
    refine rz (.int .u8 (rd b 0)) (by simp [go_sem, sEv, sLook, nbeq, i64_w, -List.length_flatten, hcell_]) ?_
    refine rnk cN ?_
    refine rz (.bool (decide (8 < (rd b 0)))) (by simp [go_sem, sEv, sLook, nbeq, i64_w, -List.length_flatten]) ?_
    refine rz (.bool (decide (8 < (rd b 0)))) (by first | (simp [go_sem, sEv, sLook, nbeq, i64_w, -List.length_flatten, cN]; done) | (simp [go_sem, sEv, sLook, nbeq, i64_w, -List.length_flatten] <;> omega) | (simp [go_sem, sEv, sLook, nbeq, i64_w, -List.length_flatten]; intro h_; exact absurd (by omega) h_) | (rw [cN]; simp [go_sem, sEv, sLook, nbeq, i64_w, -List.length_flatten]; done)) ?_
    refine rv (.bool (decide (8 < (rd b 0)))) ?_
    rcases bcase (decide (8 < (rd b 0))) with c8 | c8
    · refine rnk c8 ?_
      refine rv (.slice (some ad) b.length c0) ?_
      refine rnk c8 ?_
      refine rz (.pointer (some ad)) (by have hp_ : 0 < b.length := (by omega); have hp2_ : b ≠ [] := (fun h_ => by rw [h_] at hp_; simp at hp_); first | (simp [go_sem, sEv, sLook, nbeq, i64_w, -List.length_flatten, Try.underlying30, Flow.add_zero, hp_]; done) | (simp [go_sem, sEv, sLook, nbeq, i64_w, -List.length_flatten, Try.underlying30, Flow.add_zero, hp2_]; done) | (simp [go_sem, sEv, sLook, nbeq, i64_w, -List.length_flatten, Try.underlying30, Flow.add_zero]; exact hp2_)) ?_
      refine rnk c8 ?_
      refine rz (.int .u8 (rd b 0)) (by simp [go_sem, sEv, sLook, nbeq, i64_w, -List.length_flatten, hcell_]) ?_
      refine rnk c8 ?_
      refine rz (.int .i64 (rd b 0)) (by simp [go_sem, sEv, sLook, nbeq, i64_w, -List.length_flatten]; exact wrap_id (by omega) (by omega)) ?_
      refine rnk c8 ?_
      refine rv (.slice (some ad) b.length c0) ?_
      refine rnk c8 ?_
      refine rz (.int .i64 (b.length : Int)) (by simp [go_sem, sEv, sLook, nbeq, i64_w, -List.length_flatten]) ?_
      refine rnk c8 ?_
      refine rz (.int .i64 ((b.length : Int) - 1)) (by simp [go_sem, sEv, sLook, nbeq, i64_w, -List.length_flatten]; have h_ := hC.2.1; exact wrap_id (by omega) (by omega)) ?_
      refine rnk c8 ?_
      refine rz (.bool (decide (((b.length : Int) - 1) < (rd b 0)))) (by simp [go_sem, sEv, sLook, nbeq, i64_w, -List.length_flatten]) ?_
      refine rz (.bool (decide (((b.length : Int) - 1) < (rd b 0)))) (by first | (simp [go_sem, sEv, sLook, nbeq, i64_w, -List.length_flatten, c8]; done) | (simp [go_sem, sEv, sLook, nbeq, i64_w, -List.length_flatten] <;> omega) | (simp [go_sem, sEv, sLook, nbeq, i64_w, -List.length_flatten]; intro h_; exact absurd (by omega) h_) | (rw [c8]; simp [go_sem, sEv, sLook, nbeq, i64_w, -List.length_flatten]; done)) ?_
      refine rw_end ?_
      refine w_weaken (G' := [(0, .slice (some ad) b.length c0), (2, .int .i64 0), (3, .int .i64 0), (23, .bool (decide (((b.length : Int) - 1) < (rd b 0))))]) ⟨rfl, rfl, rfl, rfl, trivial⟩ ?_
      refine w_cond rfl rfl (fun c3 => ?_) (fun c3 => ?_)
      · refine w_seq ?_
        refine w_region ?_
        refine rv (.int .i64 0) ?_
        refine rv (.int .i64 0) ?_
        refine rw_end ?_
        refine w_ret (post_ret2 rfl rfl rfl ?_)
        have e_ : takeP b = (0, 0) := by
          unfold takeP
          rw [if_neg (by simpa using cN)]
          rw [if_neg (of_decide_eq_false c8)]
          rw [if_pos (of_decide_eq_true c3)]
        exact ⟨by rw [e_]; rfl, (Below.refl _ _)⟩
      · refine w_skip ?_
        refine wsr ?_
        refine rv (.slice (some ad) b.length c0) ?_
        refine rz (.pointer (some ad)) (by have hp_ : 0 < b.length := (by omega); have hp2_ : b ≠ [] := (fun h_ => by rw [h_] at hp_; simp at hp_); first | (simp [go_sem, sEv, sLook, nbeq, i64_w, -List.length_flatten, Try.underlying30, Flow.add_zero, hp_]; done) | (simp [go_sem, sEv, sLook, nbeq, i64_w, -List.length_flatten, Try.underlying30, Flow.add_zero, hp2_]; done) | (simp [go_sem, sEv, sLook, nbeq, i64_w, -List.length_flatten, Try.underlying30, Flow.add_zero]; exact hp2_)) ?_
        refine rz (.int .u8 (rd b 0)) (by simp [go_sem, sEv, sLook, nbeq, i64_w, -List.length_flatten, hcell_]) ?_
        refine rz (.int .i64 (rd b 0)) (by simp [go_sem, sEv, sLook, nbeq, i64_w, -List.length_flatten]; exact wrap_id (by omega) (by omega)) ?_
        refine rv (.int .i64 (rd b 0)) ?_
        refine rw_end ?_
        refine w_weaken (G' := [(0, .slice (some ad) b.length c0), (2, .int .i64 0), (3, .int .i64 0), (4, .int .i64 (rd b 0))]) ⟨rfl, rfl, rfl, rfl, trivial⟩ ?_
        refine w_seq ?_
        refine wsr ?_
        refine rv (.int .i64 (rd b 0)) ?_
        refine rz (.bool (decide (0 < (rd b 0)))) (by simp [go_sem, sEv, sLook, nbeq, i64_w, -List.length_flatten]) ?_
        refine rv (.bool (decide (0 < (rd b 0)))) ?_
        rcases bcase (decide (0 < (rd b 0))) with cZ | cZ
        · refine rok cZ ?_
          refine rok cZ ?_
          refine rok cZ ?_
          refine rok cZ ?_
          refine rok cZ ?_
          refine rz (.bool false) (by first | (simp [go_sem, sEv, sLook, nbeq, i64_w, -List.length_flatten, cZ]; done) | (simp [go_sem, sEv, sLook, nbeq, i64_w, -List.length_flatten] <;> omega) | (simp [go_sem, sEv, sLook, nbeq, i64_w, -List.length_flatten]; intro h_; exact absurd (by omega) h_) | (rw [cZ]; simp [go_sem, sEv, sLook, nbeq, i64_w, -List.length_flatten]; done)) ?_
          refine rw_end ?_
          refine w_weaken (G' := [(0, .slice (some ad) b.length c0), (2, .int .i64 0), (3, .int .i64 0), (4, .int .i64 (rd b 0)), (36, .bool false)]) ⟨rfl, rfl, rfl, rfl, rfl, trivial⟩ ?_
          refine w_cond_f rfl rfl rfl ?_
          refine w_skip ?_
          refine wsr ?_
          refine rv (.slice (some ad) b.length c0) ?_
          refine rv (.int .i64 (rd b 0)) ?_
          refine rz (.int .i64 ((1 + (rd b 0).toNat : Nat) : Int)) (by simp [go_sem, sEv, sLook, nbeq, i64_w, -List.length_flatten]; have c8_ := of_decide_eq_false c8; rw [wrap_id (by omega) (by omega)]; omega) ?_
          have c3b_ := of_decide_eq_false c3
          have c8b_ := of_decide_eq_false c8
          have hP1 := (mid_C hC 1 (1 + (rd b 0).toNat) (by omega) (by omega) (show b.length ≤ c0 by have q_ := hc; have q2_ : b.length = b.length := rfl; omega))
          have hc2 : ((b.take (1 + (rd b 0).toNat)).drop 1).length ≤ (c0 - 1) := by have q_ := hc; have q2_ : b.length = b.length := rfl; simp only [List.length_take, List.length_drop]; omega
          refine rz (.slice (adr (some ad) c0 1) (((b.take (1 + (rd b 0).toNat)).drop 1).length) (c0 - 1)) (run_as (run_mid (e := 5) (by kernel_rfl) (fun _ => by kernel_rfl) 1 (1 + (rd b 0).toNat) _ _ (by first | rfl | (simp; done) | omega) (by first | rfl | (simp; done) | omega) rfl (by omega) (by omega) hc _)) ?_
          refine rw_call rfl rfl rfl rfl (f := 64) (args := #[.slice (adr (some ad) c0 1) (((b.take (1 + (rd b 0).toNat)).drop 1).length) (c0 - 1)]) (by simp [go_sem, sEv, sLook, nbeq, i64_w, -List.length_flatten]) (high_calls w _ _ ((b.take (1 + (rd b 0).toNat)).drop 1) (Kd.C_below hP1 (Below.refl _ _)) hc2 ((hb.take _).drop _) (by simp only [List.length_take, List.length_drop]; omega)) ?_
          rintro e_ w3 ⟨rfl, hb4_⟩
          refine ⟨_, rfl, ?_⟩
          have hb4 := hb4_.below
          have hs_w3 := hb4.size
          have hv64_ : valN ((b.take (1 + (rd b 0).toNat)).drop 1) < 18446744073709551616 := by
            have hx_ := valN_lt ((b.take (1 + (rd b 0).toNat)).drop 1) ((hb.take _).drop _)
            have hxl_ : ((b.take (1 + (rd b 0).toNat)).drop 1).length ≤ 8 := by simp only [List.length_take, List.length_drop]; omega
            have h9_ : 2 ^ (8 * ((b.take (1 + (rd b 0).toNat)).drop 1).length) ≤ 2 ^ 64 := Nat.pow_le_pow_right (by omega) (by omega)
            exact Nat.lt_of_lt_of_le hx_ h9_
          refine rw_call rfl rfl rfl rfl (f := 65) (args := #[.int .u64 ((valN ((b.take (1 + (rd b 0).toNat)).drop 1) : Nat) : Int)]) (by simp [go_sem, sEv, sLook, nbeq, i64_w, -List.length_flatten]) (frame_back.calls _ _ w3 (back_f (valN ((b.take (1 + (rd b 0).toNat)).drop 1)) hv64_)) ?_
          rintro e_ w5 ⟨rfl, hb6_⟩
          refine ⟨_, rfl, ?_⟩
          have hb6 := hb6_.below
          have hs_w5 := hb6.size
          refine rv (.int .i64 (rd b 0)) ?_
          refine rz (.int .i64 ((1 + (rd b 0).toNat : Nat) : Int)) (by simp [go_sem, sEv, sLook, nbeq, i64_w, -List.length_flatten]; have c8_ := of_decide_eq_false c8; rw [wrap_id (by omega) (by omega)]; omega) ?_
          refine rv (.int .i64 (bk (valN ((b.take (1 + (rd b 0).toNat)).drop 1)))) ?_
          refine rv (.int .i64 ((1 + (rd b 0).toNat : Nat) : Int)) ?_
          refine rw_end ?_
          refine w_weaken (G' := [(2, .int .i64 (bk (valN ((b.take (1 + (rd b 0).toNat)).drop 1)))), (3, .int .i64 ((1 + (rd b 0).toNat : Nat) : Int))]) ⟨rfl, rfl, trivial⟩ ?_
          refine w_ret (post_ret2 rfl rfl rfl ?_)
          have e_ : takeP b = (bk (valN ((b.take (1 + (rd b 0).toNat)).drop 1)), 1 + (rd b 0).toNat) := by
            unfold takeP
            rw [if_neg (by simpa using cN)]
            rw [if_neg (of_decide_eq_false c8)]
            rw [if_neg (of_decide_eq_false c3)]
            rw [if_neg (fun h_ => of_decide_eq_false cZ h_.1)]
          exact ⟨by rw [e_], (chain hb4 hb6)⟩
        · refine rnk cZ ?_
          refine rv (.slice (some ad) b.length c0) ?_
          refine rnk cZ ?_
          refine rv (.int .i64 (rd b 0)) ?_
          refine rnk cZ ?_
          have c3_ := of_decide_eq_false c3
          have cZ_ := of_decide_eq_true cZ
          obtain ⟨ad2, hA2_, hcell2_⟩ := Kd.at_int hC (rd b 0) (by omega) (by omega)
          obtain rfl := Option.some.inj hA2_
          refine rz (.pointer (some (ad.add (rd b 0).toNat))) (by simp [go_sem, sEv, sLook, nbeq, i64_w, -List.length_flatten, Try.underlying30]; omega) ?_
          refine rnk cZ ?_
          refine rz (.int .u8 (rd b (rd b 0))) (by simp [go_sem, sEv, sLook, nbeq, i64_w, -List.length_flatten, hcell2_]) ?_
          refine rnk cZ ?_
          refine rz (.bool ((rd b (rd b 0)) == 0)) (by simp [go_sem, sEv, sLook, nbeq, i64_w, -List.length_flatten]) ?_
          refine rz (.bool ((rd b (rd b 0)) == 0)) (by first | (simp [go_sem, sEv, sLook, nbeq, i64_w, -List.length_flatten, cZ]; done) | (simp [go_sem, sEv, sLook, nbeq, i64_w, -List.length_flatten] <;> omega) | (simp [go_sem, sEv, sLook, nbeq, i64_w, -List.length_flatten]; intro h_; exact absurd (by omega) h_) | (rw [cZ]; simp [go_sem, sEv, sLook, nbeq, i64_w, -List.length_flatten]; done)) ?_
          refine rw_end ?_
          refine w_weaken (G' := [(0, .slice (some ad) b.length c0), (2, .int .i64 0), (3, .int .i64 0), (4, .int .i64 (rd b 0)), (36, .bool ((rd b (rd b 0)) == 0))]) ⟨rfl, rfl, rfl, rfl, rfl, trivial⟩ ?_
          refine w_cond rfl rfl (fun cT => ?_) (fun cT => ?_)
          · refine w_seq ?_
            refine w_region ?_
            refine rv (.int .i64 0) ?_
            refine rv (.int .i64 0) ?_
            refine rw_end ?_
            refine w_ret (post_ret2 rfl rfl rfl ?_)
            have e_ : takeP b = (0, 0) := by
              unfold takeP
              rw [if_neg (by simpa using cN)]
              rw [if_neg (of_decide_eq_false c8)]
              rw [if_neg (of_decide_eq_false c3)]
              rw [if_pos ⟨of_decide_eq_true cZ, by simpa using cT⟩]
            exact ⟨by rw [e_]; rfl, (Below.refl _ _)⟩
          · refine w_skip ?_
            refine wsr ?_
            refine rv (.slice (some ad) b.length c0) ?_
            refine rv (.int .i64 (rd b 0)) ?_
            refine rz (.int .i64 ((1 + (rd b 0).toNat : Nat) : Int)) (by simp [go_sem, sEv, sLook, nbeq, i64_w, -List.length_flatten]; have c8_ := of_decide_eq_false c8; rw [wrap_id (by omega) (by omega)]; omega) ?_
            have c3b_ := of_decide_eq_false c3
            have c8b_ := of_decide_eq_false c8
            have hP7 := (mid_C hC 1 (1 + (rd b 0).toNat) (by omega) (by omega) (show b.length ≤ c0 by have q_ := hc; have q2_ : b.length = b.length := rfl; omega))
            have hc8 : ((b.take (1 + (rd b 0).toNat)).drop 1).length ≤ (c0 - 1) := by have q_ := hc; have q2_ : b.length = b.length := rfl; simp only [List.length_take, List.length_drop]; omega
            refine rz (.slice (adr (some ad) c0 1) (((b.take (1 + (rd b 0).toNat)).drop 1).length) (c0 - 1)) (run_as (run_mid (e := 5) (by kernel_rfl) (fun _ => by kernel_rfl) 1 (1 + (rd b 0).toNat) _ _ (by first | rfl | (simp; done) | omega) (by first | rfl | (simp; done) | omega) rfl (by omega) (by omega) hc _)) ?_
            refine rw_call rfl rfl rfl rfl (f := 64) (args := #[.slice (adr (some ad) c0 1) (((b.take (1 + (rd b 0).toNat)).drop 1).length) (c0 - 1)]) (by simp [go_sem, sEv, sLook, nbeq, i64_w, -List.length_flatten]) (high_calls w _ _ ((b.take (1 + (rd b 0).toNat)).drop 1) (Kd.C_below hP7 (Below.refl _ _)) hc8 ((hb.take _).drop _) (by simp only [List.length_take, List.length_drop]; omega)) ?_
            rintro e_ w9 ⟨rfl, hb10_⟩
            refine ⟨_, rfl, ?_⟩
            have hb10 := hb10_.below
            have hs_w9 := hb10.size
            have hv64_ : valN ((b.take (1 + (rd b 0).toNat)).drop 1) < 18446744073709551616 := by
              have hx_ := valN_lt ((b.take (1 + (rd b 0).toNat)).drop 1) ((hb.take _).drop _)
              have hxl_ : ((b.take (1 + (rd b 0).toNat)).drop 1).length ≤ 8 := by simp only [List.length_take, List.length_drop]; omega
              have h9_ : 2 ^ (8 * ((b.take (1 + (rd b 0).toNat)).drop 1).length) ≤ 2 ^ 64 := Nat.pow_le_pow_right (by omega) (by omega)
              exact Nat.lt_of_lt_of_le hx_ h9_
            refine rw_call rfl rfl rfl rfl (f := 65) (args := #[.int .u64 ((valN ((b.take (1 + (rd b 0).toNat)).drop 1) : Nat) : Int)]) (by simp [go_sem, sEv, sLook, nbeq, i64_w, -List.length_flatten]) (frame_back.calls _ _ w9 (back_f (valN ((b.take (1 + (rd b 0).toNat)).drop 1)) hv64_)) ?_
            rintro e_ w11 ⟨rfl, hb12_⟩
            refine ⟨_, rfl, ?_⟩
            have hb12 := hb12_.below
            have hs_w11 := hb12.size
            refine rv (.int .i64 (rd b 0)) ?_
            refine rz (.int .i64 ((1 + (rd b 0).toNat : Nat) : Int)) (by simp [go_sem, sEv, sLook, nbeq, i64_w, -List.length_flatten]; have c8_ := of_decide_eq_false c8; rw [wrap_id (by omega) (by omega)]; omega) ?_
            refine rv (.int .i64 (bk (valN ((b.take (1 + (rd b 0).toNat)).drop 1)))) ?_
            refine rv (.int .i64 ((1 + (rd b 0).toNat : Nat) : Int)) ?_
            refine rw_end ?_
            refine w_weaken (G' := [(2, .int .i64 (bk (valN ((b.take (1 + (rd b 0).toNat)).drop 1)))), (3, .int .i64 ((1 + (rd b 0).toNat : Nat) : Int))]) ⟨rfl, rfl, trivial⟩ ?_
            refine w_ret (post_ret2 rfl rfl rfl ?_)
            have e_ : takeP b = (bk (valN ((b.take (1 + (rd b 0).toNat)).drop 1)), 1 + (rd b 0).toNat) := by
              unfold takeP
              rw [if_neg (by simpa using cN)]
              rw [if_neg (of_decide_eq_false c8)]
              rw [if_neg (of_decide_eq_false c3)]
              rw [if_neg (fun h_ => absurd h_.2 (by simpa using cT))]
            exact ⟨by rw [e_], (chain hb10 hb12)⟩
    · refine rok c8 ?_
      refine rok c8 ?_
      refine rok c8 ?_
      refine rok c8 ?_
      refine rok c8 ?_
      refine rok c8 ?_
      refine rok c8 ?_
      refine rok c8 ?_
      refine rz (.bool true) (by first | (simp [go_sem, sEv, sLook, nbeq, i64_w, -List.length_flatten, c8]; done) | (simp [go_sem, sEv, sLook, nbeq, i64_w, -List.length_flatten] <;> omega) | (simp [go_sem, sEv, sLook, nbeq, i64_w, -List.length_flatten]; intro h_; exact absurd (by omega) h_) | (rw [c8]; simp [go_sem, sEv, sLook, nbeq, i64_w, -List.length_flatten]; done)) ?_
      refine rw_end ?_
      refine w_weaken (G' := [(0, .slice (some ad) b.length c0), (2, .int .i64 0), (3, .int .i64 0), (23, .bool true)]) ⟨rfl, rfl, rfl, rfl, trivial⟩ ?_
      refine w_cond_t rfl rfl rfl ?_
      refine wsr ?_
      refine rv (.int .i64 0) ?_
      refine rv (.int .i64 0) ?_
      refine rw_end ?_
      refine w_ret (post_ret2 rfl rfl rfl ?_)
      have e_ : takeP b = (0, 0) := by
        unfold takeP
        rw [if_neg (by simpa using cN)]
        rw [if_pos (of_decide_eq_true c8)]
      exact ⟨by rw [e_]; rfl, (Below.refl _ _)⟩
  · refine rok cN ?_
    refine rok cN ?_
    refine rok cN ?_
    refine rok cN ?_
    refine rz (.bool true) (by first | (simp [go_sem, sEv, sLook, nbeq, i64_w, -List.length_flatten, cN]; done) | (simp [go_sem, sEv, sLook, nbeq, i64_w, -List.length_flatten] <;> omega) | (simp [go_sem, sEv, sLook, nbeq, i64_w, -List.length_flatten]; intro h_; exact absurd (by omega) h_) | (rw [cN]; simp [go_sem, sEv, sLook, nbeq, i64_w, -List.length_flatten]; done)) ?_
    refine rv (.bool true) ?_
    refine ro true ?_
    refine ro true ?_
    refine ro true ?_
    refine ro true ?_
    refine ro true ?_
    refine ro true ?_
    refine ro true ?_
    refine ro true ?_
    refine rz (.bool true) (by simp [go_sem, sEv, sLook, nbeq, i64_w, -List.length_flatten]) ?_
    refine rw_end ?_
    refine w_weaken (G' := [(0, .slice A0 b.length c0), (2, .int .i64 0), (3, .int .i64 0), (23, .bool true)]) ⟨rfl, rfl, rfl, rfl, trivial⟩ ?_
    refine w_cond_t rfl rfl rfl ?_
    refine wsr ?_
    refine rv (.int .i64 0) ?_
    refine rv (.int .i64 0) ?_
    refine rw_end ?_
    refine w_ret (post_ret2 rfl rfl rfl ?_)
    have e_ : takeP b = (0, 0) := by
      unfold takeP
      rw [if_pos (by simpa using cN)]
    exact ⟨by rw [e_]; rfl, (Below.refl _ _)⟩
theorem takeP_zero (b : List Int) (h : (takeP b).2 = 0) : (takeP b).1 = 0 := by
  revert h
  unfold takeP
  split
  · exact fun _ => rfl
  · split
    · exact fun _ => rfl
    · split
      · exact fun _ => rfl
      · split
        · exact fun _ => rfl
        · intro h
          simp at h
end Go.Proofs.Ytbbhdohjhipalaa.PNoteReads
end
section
namespace Go.Proofs.Ytbbhdohjhipalaa.PNoteReads
open Go.RowKit Go.Proofs.YtbbhdohjhipalaaW.PrintWords Go.Proofs.YtbbhdohjhipalaaW.PrintLast Go.Proofs.YtbbhdohjhipalaaW.PrintMore
open Go.Proofs.Ytbbhdohjhipalaa.Flow
set_option linter.unusedVariables false
set_option linter.unusedSimpArgs false
theorem str_inj : ∀ (a b : List Int), Bytes a → Bytes b → (a.map fun n => UInt8.ofNat n.toNat) = (b.map fun n => UInt8.ofNat n.toNat) → a = b
  | [], [], _, _, _ => rfl
  | [], y :: b, _, _, h => by simp at h
  | x :: a, [], _, _, h => by simp at h
  | x :: a, y :: b, ha, hb, h => by
    simp only [List.map_cons, List.cons.injEq] at h
    have h1 := ha x (by simp)
    have h2 := hb y (by simp)
    have h3 := congrArg UInt8.toNat h.1
    simp at h3
    have h4 : x = y := by omega
    rw [h4, str_inj a b ha.tail hb.tail h.2]
theorem str_iff {a b : List Int} (ha : Bytes a) (hb : Bytes b) : (strOfNums a).toList = (strOfNums b).toList ↔ a = b := by
  constructor
  · intro h
    have h1 := toList_inj h
    have h2 : (strOfNums a).data.toList = (strOfNums b).data.toList := by rw [h1]
    rw [strOfNums_data, strOfNums_data] at h2
    exact str_inj a b ha hb h2
  · intro h
    rw [h]
theorem valN_U (b : List Int) (hb : Bytes b) (z : Nat) (hz : z ≤ 8) : valN ((b.take (1 + z)).drop 1) < 18446744073709551616 := by
  have hB : Bytes ((b.take (1 + z)).drop 1) := (hb.take _).drop _
  have hv := valN_lt _ hB
  have h9 : 2 ^ (8 * ((b.take (1 + z)).drop 1).length) ≤ 2 ^ 64 := Nat.pow_le_pow_right (by omega) (by rw [List.length_drop, List.length_take]; omega)
  exact Nat.lt_of_lt_of_le hv h9
theorem fin_take (b : List Int) (hb : Bytes b) (z : Nat) (hz : z ≤ 8) (hl : 1 + z ≤ b.length) (hr : rd b 0 = (z : Int)) : takeP b = if (strOfNums (numB (bk (valN ((b.take (1 + z)).drop 1))))).toList = (strOfNums (b.take (1 + z))).toList then (bk (valN ((b.take (1 + z)).drop 1)), 1 + z) else (0, 0) := by
  have hB : Bytes ((b.take (1 + z)).drop 1) := (hb.take _).drop _
  have hL : ((b.take (1 + z)).drop 1).length = z := by rw [List.length_drop, List.length_take]; omega
  have hv := valN_lt _ hB
  rw [hL] at hv
  have h9 : 2 ^ (8 * z) ≤ 2 ^ 64 := Nat.pow_le_pow_right (by omega) (by omega)
  have hv64 : valN ((b.take (1 + z)).drop 1) < 18446744073709551616 := Nat.lt_of_lt_of_le hv h9
  have hlt : (b.take (1 + z)).length = 1 + z := by rw [List.length_take]; omega
  have hcond := str_iff (numB_bytes (bk (valN ((b.take (1 + z)).drop 1))) (bk_range hv64)) (hb.take (1 + z))
  by_cases hc : numB (bk (valN ((b.take (1 + z)).drop 1))) = b.take (1 + z)
  · rw [if_pos (hcond.2 hc)]
    have h1 := take_num (bk (valN ((b.take (1 + z)).drop 1))) (bk_range hv64) (b.drop (1 + z))
    have h2 : 1 + szN (tn (bk (valN ((b.take (1 + z)).drop 1)))) = 1 + z := by rw [← numB_len, hc, hlt]
    rw [h2, hc, List.take_append_drop] at h1
    exact h1
  · rw [if_neg (fun h => hc (hcond.1 h))]
    have h0 : (takeP b).2 = 0 := by
      rcases Nat.eq_zero_or_pos (takeP b).2 with h | h
      · exact h
      · have h3 := take_back b hb (by omega)
        have h4 : takeP b = (bk (valN ((b.take (1 + z)).drop 1)), 1 + z) := by
          revert h
          unfold takeP
          rw [hr]
          have e : (((z : Nat) : Int)).toNat = z := by omega
          rw [e]
          split
          · intro h; simp at h
          · split
            · intro h; simp at h
            · split
              · intro h; simp at h
              · split
                · intro h; simp at h
                · intro _; rfl
        rw [h4] at h3
        have h5 := congrArg (List.take (1 + z)) h3.1
        simp only at h5
        have h6 : (numB (bk (valN ((b.take (1 + z)).drop 1)))).length = 1 + z := by
          have h7 := congrArg List.length h3.1
          simp only [List.length_append, List.length_drop] at h7
          omega
        rw [List.take_append_of_le_length (by omega), List.take_of_length_le (by omega)] at h5
        exact absurd h5 hc
    exact Prod.ext (takeP_zero b h0) h0
def numsP : Nat → List Int → Int → List Int → List Int × Bool
  | 0, _, _, _ => ([], false)
  | k + 1, b, most, x => if b.length = 0 then (if 0 < x.length ∧ most < (x.length : Int) then ([], false) else (x, true)) else if (takeP b).2 = 0 then ([], false) else numsP k (b.drop (takeP b).2) most (x ++ [(takeP b).1])
theorem nums_many : ∀ (n : Nat) (b x : List Int) (most : Int) (K : Nat), b.length ≤ n → Bytes b → n < K → most < (x.length : Int) → 0 < x.length → numsP K b most x = ([], false)
  | n, b, x, most, K, hn, hb, hK, hm, hx => by
    obtain ⟨k, rfl⟩ : ∃ k, K = k + 1 := ⟨K - 1, by omega⟩
    rw [numsP]
    by_cases c1 : b.length = 0
    · rw [if_pos c1, if_pos ⟨hx, hm⟩]
    · rw [if_neg c1]
      by_cases c2 : (takeP b).2 = 0
      · rw [if_pos c2]
      · have h3 := take_back b hb c2
        have hd : (b.drop (takeP b).2).length = b.length - (takeP b).2 := List.length_drop
        rw [if_neg c2]
        match n, hn with
        | 0, hn => omega
        | n + 1, hn => exact nums_many n (b.drop (takeP b).2) (x ++ [(takeP b).1]) most k (by omega) (hb.drop _) (by omega) (by simp only [List.length_append, List.length_singleton]; omega) (by simp)
theorem nums_both : ∀ (n : Nat) (b x : List Int) (most : Int) (K L : Nat), b.length ≤ n → Bytes b → n + 32 ≤ K → n < L → (x = [] ∨ (x.length : Int) ≤ most) → x.length + b.length ≤ 1000000 →
    frame_Nums.l0 K b most x = some ((numsP L b most x).1, if (numsP L b most x).2 = true then none else some 3) ∧ (numsP L b most x).1.length ≤ 1000000
  | n, b, x, most, K, L, hn, hb, hK, hL, hm, hl => by
    obtain ⟨k, rfl⟩ : ∃ k, K = k + 1 := ⟨K - 1, by omega⟩
    obtain ⟨l, rfl⟩ : ∃ l, L = l + 1 := ⟨L - 1, by omega⟩
    rw [numsP, frame_Nums.l0]
    by_cases c1 : b.length = 0
    · rw [if_pos c1, if_neg (by omega), if_neg ?_]
      · exact ⟨rfl, by simp only; omega⟩
      · rintro ⟨h1, h2⟩
        rcases hm with h | h
        · rw [h] at h1
          simp at h1
        · omega
    · rw [if_neg c1, if_pos (by omega), take_f b hb (by omega) k (by omega), Option.bind_some]
      by_cases c2 : (takeP b).2 = 0
      · rw [if_pos c2, if_pos (by simp only; omega)]
        exact ⟨rfl, by simp⟩
      · have h3 := take_back b hb c2
        have hd : (b.drop (takeP b).2).length = b.length - (takeP b).2 := List.length_drop
        rw [if_neg c2, if_neg (by simp only; omega)]
        by_cases c3 : most ≤ (x.length : Int)
        · rw [if_pos c3]
          match n, hn with
          | 0, hn => omega
          | n + 1, hn =>
            rw [nums_many n (b.drop (takeP b).2) (x ++ [(takeP b).1]) most l (by omega) (hb.drop _) (by omega) (by simp only [List.length_append, List.length_singleton]; omega) (by simp)]
            exact ⟨rfl, by simp⟩
        · rw [if_neg c3, if_pos (by omega), if_pos (by omega), if_pos (by omega)]
          simp only [Int.toNat_natCast]
          match n, hn with
          | 0, hn => omega
          | n + 1, hn => exact nums_both n (b.drop (takeP b).2) (x ++ [(takeP b).1]) most k l (by omega) (hb.drop _) (by omega) (by omega) (.inr (by simp only [List.length_append, List.length_singleton]; omega)) (by simp only [List.length_append, List.length_singleton]; omega)
end Go.Proofs.Ytbbhdohjhipalaa.PNoteReads
end
section
namespace Go.Proofs.Ytbbhdohjhipalaa.Flow
open Go.RowKit Go.Proofs.YtbbhdohjhipalaaW.PrintWords Go.Proofs.YtbbhdohjhipalaaW.PrintLast Go.Proofs.YtbbhdohjhipalaaW.PrintMore
open Go.ChangeShapes Go.WideShapes Go.ChangeAt Go.Deep
set_option linter.unusedVariables false
set_option linter.unusedSimpArgs false
section
variable {H : Type} {enc : TypeId × Value → H} {P : Program} {W : World}
def Light (P : Program) (t : TypeId) (d : DataW H) : Prop := ∀ n ∈ d.weights P t, n ≤ reachBytes
theorem light_arg {ts : List TypeId} {ds : List (DataW H)} {j : Nat} {t : TypeId} {d : DataW H} (hsz : (DataW.weightsEach P ts ds).all (· ≤ reachBytes) = true) (ht : ts[j]? = some t) (hd : ds[j]? = some d) : Light P t d := fun n hn => by
  have h := List.all_eq_true.1 hsz n (DataW.weights_mem_each ht hd n hn)
  simpa using h
theorem weights_all_mem {e : TypeId} : ∀ {l : List (DataW H)} {d : DataW H}, d ∈ l → ∀ n ∈ d.weights P e, n ∈ DataW.weightsAll P e l
  | [], _, h, _, _ => by cases h
  | d0 :: l, d, h, n, hn => by
    simp only [DataW.weightsAll, List.mem_append]
    rcases List.mem_cons.1 h with rfl | h
    · exact .inl hn
    · exact .inr (weights_all_mem h n hn)
def OpW (enc : TypeId × Value → H) (P : Program) (W : World) {α : Type} (t : TypeId) (d : Kd α) (ok : α → Prop) : Prop :=
  ∀ (m : Nat) (cs : List Value) (y : DataW H × List MemPlace), DataW.trod enc P W 0 (fun _ => true) true m t cs = some y → Light P t y.1 → ∃ x, d.K W x cs ∧ ok x
theorem Opn.w {α : Type} {t : TypeId} {d : Kd α} {ok : α → Prop} (h : Opn enc P W t d ok) : OpW enc P W t d ok := fun m cs y hy _ => h m cs y hy
theorem OpW.as {α β : Type} {t : TypeId} {d : Kd α} {d' : Kd β} {ok : α → Prop} {ok' : β → Prop} (h : OpW enc P W t d ok) (f : α → β) (hk : ∀ x cs, d.K W x cs → d'.K W (f x) cs) (hi : ∀ x, ok x → ok' (f x)) : OpW enc P W t d' ok' := fun m cs y hy hl => by
  obtain ⟨x, h1, h2⟩ := h m cs y hy hl
  exact ⟨f x, hk _ _ h1, hi x h2⟩
theorem opw_slice {α : Type} {t e : TypeId} {d : Kd α} {ok : α → Prop} (ht : P.underlying t = some (.slice e)) (hsz : P.cellsOf e = d.sz) (hB : 1 ≤ P.bytesOf e) (z : α) (he : OpW enc P W e d ok) : OpW enc P W t (Kd.slice e d) (fun xs => xs.length ≤ 140737488351232 ∧ ∀ x ∈ xs, ok x) := fun m cs y h hL => by
  rcases open_slice ht h with ⟨rfl, _⟩ | ⟨a, len, cap, m2, n, D, Pl, rfl, _, hl, hm, hmm, hy, hx⟩
  · exact ⟨[], ⟨none, 0, rfl, Nat.le_refl _, ⟨rfl, by simp, fun h => absurd h (by simp)⟩⟩, by simp, fun x hx => by cases hx⟩
  · simp only [if_true] at hmm
    subst hy
    have hw : len * 1 ≤ 140737488351232 := by
      have h1 := hL ((((List.range len).map D).length + ((List.range (m2 - len)).map fun j => D (len + j)).length) * P.bytesOf e) (by simp [DataW.weights, ht])
      simp only [List.length_map, List.length_range] at h1
      exact Nat.le_trans (Nat.mul_le_mul (by omega) hB) h1
    have each : ∀ i, i < len → ∃ x : α, ok x ∧ ∃ c, c.length = d.sz ∧ d.K W x c ∧ ∀ j u, c[j]? = some u → W.cell? (a.add (i * d.sz + j)) = some u := fun i hi => by
      obtain ⟨cs', h1, h2⟩ := hx i (by omega)
      obtain ⟨x, h3, h4⟩ := he _ _ _ h2 (fun n hn => hL n (by
        simp only [DataW.weights, ht, List.mem_cons, List.mem_append]
        exact .inr (.inl (weights_all_mem (List.mem_map.2 ⟨i, List.mem_range.2 hi, rfl⟩) n hn))))
      rw [hsz] at h1
      refine ⟨x, h4, cs', d.K_len h3, h3, fun j u hu => ?_⟩
      obtain ⟨_, hlen, hc⟩ := World.cells?_some h1
      rw [← Go.Deep.add_add]
      exact (hc j (by rw [← hlen]; exact (List.getElem?_eq_some_iff.1 hu).1)).trans hu
    have each2 : ∀ i, ∃ x : α, i < len → ok x ∧ ∃ c, c.length = d.sz ∧ d.K W x c ∧ ∀ j u, c[j]? = some u → W.cell? (a.add (i * d.sz + j)) = some u := fun i => by
      by_cases hi : i < len
      · obtain ⟨x, hx⟩ := each i hi
        exact ⟨x, fun _ => hx⟩
      · exact ⟨z, fun h => absurd h hi⟩
    obtain ⟨f, hf⟩ := Classical.skolem.1 each2
    have hlen : ((List.range len).map f).length = len := by simp
    refine ⟨(List.range len).map f, ⟨some a, cap, by rw [hlen], by omega, ⟨rfl, ?_, fun hn => ⟨a, rfl, fun j p hj => ?_⟩⟩⟩, by rw [hlen]; omega, fun x hx => ?_⟩
    · rw [hlen]
      omega
    · obtain ⟨hl2, hp⟩ := List.getElem?_eq_some_iff.1 hj
      rw [hlen] at hl2
      rw [List.getElem_map, List.getElem_range] at hp
      subst hp
      exact (hf j hl2).2
    · obtain ⟨i, hi, rfl⟩ := List.mem_map.1 hx
      exact (hf i (List.mem_range.1 hi)).1
theorem opwAt_last {α : Type} {t : TypeId} {d : Kd α} {ok : α → Prop} {cs : List Value} {a n : Nat} {y : DataW H × List MemPlace} (h : OpW enc P W t d ok) (hc : P.cellsOf t = d.sz) (hl : cs.length = a + d.sz) (hf : DataW.trod enc P W 0 (fun _ => true) true n t ((cs.drop a).take (P.cellsOf t)) = some y) (hL : Light P t y.1) : OpnAt enc P W cs a d ok := by
  obtain ⟨x, h1, h2⟩ := h _ _ _ hf hL
  rw [hc, take_all cs a d.sz hl] at h1
  exact ⟨x, h1, h2⟩
theorem opwAt_cons {α β : Type} {t : TypeId} {d : Kd α} {d2 : Kd β} {ok : α → Prop} {ok2 : β → Prop} {cs : List Value} {a b n : Nat} {y : DataW H × List MemPlace} (h : OpW enc P W t d ok) (hc : P.cellsOf t = d.sz) (hb : b = a + d.sz) (hf : DataW.trod enc P W 0 (fun _ => true) true n t ((cs.drop a).take (P.cellsOf t)) = some y) (hL : Light P t y.1) (hr : OpnAt enc P W cs b d2 ok2) : OpnAt enc P W cs a (Kd.pair d d2) (fun x => ok x.1 ∧ ok2 x.2) := by
  obtain ⟨x, h1, h2⟩ := h _ _ _ hf hL
  obtain ⟨x2, h3, h4⟩ := hr
  subst hb
  rw [hc] at h1
  exact ⟨(x, x2), ⟨_, _, split_at cs a d.sz, h1, h3⟩, h2, h4⟩
theorem opw_struct {α : Type} {t : TypeId} {fs : Array Field} {d : Kd α} {ok : α → Prop} (ht : P.underlying t = some (.struct fs)) (hf : ∀ (n : Nat) (cs : List Value) (ys : List (DataW H × List MemPlace)), cs.length = P.cellsOf t → (∀ (j : Nat) (f : Field), fs[j]? = some f → DataW.trod enc P W 0 (fun _ => true) true n f.type ((cs.drop f.offset).take (P.cellsOf f.type)) = ys[j]?) → ys.length = fs.size → (∀ (j : Nat) (f : Field) (y : DataW H × List MemPlace), fs[j]? = some f → ys[j]? = some y → Light P f.type y.1) → OpnAt enc P W cs 0 d ok) : OpW enc P W t d ok := fun m cs y h hL => by
  obtain ⟨ys, n, _, hy, hcl, hyl, hg⟩ := DataW.trod_struct ht h
  subst hy
  refine hf n cs ys hcl hg hyl (fun j f y hj hyj k hk => hL k ?_)
  simp only [DataW.weights, ht]
  exact DataW.weights_mem_each (j := j) (t := f.type) (d := y.1) (by rw [List.getElem?_map, Array.getElem?_toList, hj]; rfl) (by rw [List.getElem?_map, hyj]; rfl) k hk
end
theorem argw_struct {H : Type} {enc : TypeId × Value → H} {P : Program} {W : World} {α : Type} {t : TypeId} {d : Kd α} {ok : α → Prop} {v : Value} {dd : DataW H} {p : List MemPlace} (ho : OpW enc P W t d ok) (hL : Light P t dd) (hv : ∃ cs, v = .agg cs) (h : DataW.Trod enc P W 0 (fun _ => true) true t v dd p) :
    ∃ (x : α) (cs : List Value), v = .agg cs.toArray ∧ d.K W x cs ∧ ok x := by
  obtain ⟨⟨l⟩, rfl⟩ := hv
  obtain ⟨m, hm⟩ := h
  obtain ⟨x, h1, h2⟩ := ho _ _ _ hm hL
  exact ⟨x, l, rfl, h1, h2⟩
end Go.Proofs.Ytbbhdohjhipalaa.Flow
end
section
namespace Go.Proofs.Ytbbhdohjhipalaa.Ce
open Go.RowKit Go.Proofs.YtbbhdohjhipalaaW.PrintWords Go.Proofs.YtbbhdohjhipalaaW.PrintLast Go.Proofs.YtbbhdohjhipalaaW.PrintMore
open Go.Proofs.Ytbbhdohjhipalaa.Flow
set_option linter.unusedVariables false
set_option linter.unusedSimpArgs false
abbrev kHist : Kd (Fin 65 → Int) := flat 65 encH encH_len encH_one
end Go.Proofs.Ytbbhdohjhipalaa.Ce
end
section
namespace Go.Proofs.Ytbbhdohjhipalaa.PNoteReads
open Go.RowKit Go.Proofs.YtbbhdohjhipalaaW.PrintWords Go.Proofs.YtbbhdohjhipalaaW.PrintLast Go.Proofs.YtbbhdohjhipalaaW.PrintMore
set_option linter.unusedVariables false
set_option linter.unusedSimpArgs false
mutual
def estuaryref04_Sum.l0 : Nat → List Int → Int → Int → Option (Int)
  | 0, _, _, _ => none
  | k + 1, x0, x3, x4 => if x4 < (x0.length : Int) then (estuaryref04_Sum.l1 k x0 (IntKind.u64.wrap (x3 - (Int.tmod x3 256))) x4 (Int.tmod x3 256) 0) else (some ((x3) % 4294967296))
def estuaryref04_Sum.l1 : Nat → List Int → Int → Int → Int → Int → Option (Int)
  | 0, _, _, _, _, _ => none
  | k + 1, x0, x3, x4, x5, x6 => if x6 < 8 then (if 0 ≤ (IntKind.u64.wrap (x6)) then (if (shl .u64 1 (IntKind.u64.wrap (x6))) = 0 then (none) else (if 0 ≤ x4 then (if x4 < (x0.length : Int) then (if (Int.tmod (IntKind.u64.wrap (Int.tdiv x5 (shl .u64 1 (IntKind.u64.wrap (x6))))) 2) = (Int.tmod (IntKind.u64.wrap (Int.tdiv (IntKind.u64.wrap (rd x0 x4)) (shl .u64 1 (IntKind.u64.wrap (x6))))) 2) then (estuaryref04_Sum.l1 k x0 x3 x4 x5 (wrap64 (x6 + 1))) else (estuaryref04_Sum.l1 k x0 (IntKind.u64.wrap (x3 + (shl .u64 1 (IntKind.u64.wrap (x6))))) x4 x5 (wrap64 (x6 + 1)))) else (none)) else (none))) else (none)) else (estuaryref04_Sum.l0 k x0 (Int.tmod (IntKind.u64.wrap (x3 * 16777619)) 4294967296) (wrap64 (x4 + 1)))
end
def estuaryref04_Sum.f (k : Nat) (l0 : List Int) : Option (Int) := estuaryref04_Sum.l0 k l0 2166136261 0
set_option maxHeartbeats 8000000 in
set_option maxRecDepth 100000 in
theorem estuaryref04_Sum.calls (k : Nat) (A0 : Option Addr) (c0 : Nat) (l0 : List Int) (r : Int) (w : World) (hr0 : Kd.C (Kd.int .u8) w A0 l0.length l0) (hc0 : l0.length ≤ c0) (h : estuaryref04_Sum.f k l0 = some r) :
    Calls Try.prog 52 #[.slice A0 l0.length c0] w fun e w' => e = .returned (.int .u32 r) ∧ Drawn0 w w' := by
  have HR0 := Aside0.mk hr0
  have HC0 := Aside0.mk hc0
  clear hr0 hc0
  have H : (estuaryref04_Sum.l0 k l0 2166136261 0) = some r := h
  clear h
  have H' := Aside0.mk H
  clear H
  go_enter Try.func52, Try.ntmps52
  go_wp2
  repeat (go_quiet (fail); try go_wp2)
  go_loopg [3, 4] k (fun kq v3 v4 w' => ∃ (x3_1 : Int) (x4_1 : Int), v3 = .int .u64 x3_1 ∧ v4 = .int .i64 x4_1 ∧ Aside0 (estuaryref04_Sum.l0 kq l0 x3_1 x4_1 = some r) ∧ Aside0 (kq ≤ k) ∧ Drawn0 w w')
  case atStart => exact ⟨(2166136261), (0), (by first | rfl | (simp; done) | (simp [*]; done)), (by first | rfl | (simp; done) | (simp [*]; done)), H', ⟨Nat.le_refl _⟩, by repeat (first | exact Drawn0.refl _ | apply Drawn0.step)⟩
  case round =>
    clear H'
    obtain ⟨x3_1, x4_1, rfl, rfl, HA, HK1, ⟨m1, rfl⟩⟩ := hrel
    cases gk with
    | zero => exact absurd HA.out (by simp [estuaryref04_Sum.l0])
    | succ k1 =>
      have H := HA.out
      clear HA
      simp only [estuaryref04_Sum.l0] at H
      by_cases c2 : x4_1 < (l0.length : Int)
      · rw [if_pos c2] at H
        have c2b0 : decide (x4_1 < (l0.length : Int)) = true := decide_eq_true c2
        clear c2
        have H' := Aside0.mk H
        clear H
        go_wp2
        repeat (go_quiet (fail); try go_wp2)
        go_loopg [3, 6] k1 (fun kq v3 v6 w' => ∃ (x3_2 : Int) (x6_2 : Int), v3 = .int .u64 x3_2 ∧ v6 = .int .i64 x6_2 ∧ Aside0 (estuaryref04_Sum.l1 kq l0 x3_2 x4_1 (Int.tmod x3_1 256) x6_2 = some r) ∧ Aside0 (kq ≤ k1) ∧ Drawn0 w w')
        case atStart => exact ⟨(IntKind.u64.wrap (x3_1 - (Int.tmod x3_1 256))), (0), (by first | rfl | (simp; done) | (simp [*]; done)), (by first | rfl | (simp; done) | (simp [*]; done)), H', ⟨Nat.le_refl _⟩, by repeat (first | exact Drawn0.refl _ | apply Drawn0.step)⟩
        case round =>
          clear H'
          try clear c2
          try clear c2b0
          try clear p2
          obtain ⟨x3_2, x6_2, rfl, rfl, HA, HK2, ⟨m2, rfl⟩⟩ := hrel
          cases gk with
          | zero => exact absurd HA.out (by simp [estuaryref04_Sum.l1])
          | succ k2 =>
            have H := HA.out
            clear HA
            simp only [estuaryref04_Sum.l1] at H
            by_cases c3 : x6_2 < 8
            · rw [if_pos c3] at H
              have c3b0 : decide (x6_2 < 8) = true := decide_eq_true c3
              clear c3
              obtain ⟨ji4, hji4⟩ : ∃ j_ : Int, (IntKind.u64.wrap (x6_2)) = j_ := ⟨_, rfl⟩
              replace H : (if 0 ≤ (ji4) then (if (shl .u64 1 (ji4)) = 0 then (none) else (if 0 ≤ x4_1 then (if x4_1 < (l0.length : Int) then (if (Int.tmod (IntKind.u64.wrap (Int.tdiv (Int.tmod x3_1 256) (shl .u64 1 (ji4)))) 2) = (Int.tmod (IntKind.u64.wrap (Int.tdiv (IntKind.u64.wrap (rd l0 x4_1)) (shl .u64 1 (ji4)))) 2) then (estuaryref04_Sum.l1 k2 l0 x3_2 x4_1 (Int.tmod x3_1 256) (wrap64 (x6_2 + 1))) else (estuaryref04_Sum.l1 k2 l0 (IntKind.u64.wrap (x3_2 + (shl .u64 1 (ji4)))) x4_1 (Int.tmod x3_1 256) (wrap64 (x6_2 + 1)))) else (none)) else (none))) else (none)) = some r := by first | (rw [hji4] at H; exact H) | (simp only [hji4] at H ⊢; exact H)
              by_cases c5 : 0 ≤ (ji4)
              · rw [if_pos c5] at H
                have c5b0 := eq_true c5
                have c5b1 : decide (0 ≤ (ji4)) = true := decide_eq_true c5
                clear c5
                obtain ⟨ji6, hji6⟩ : ∃ j_ : Int, (shl .u64 1 (ji4)) = j_ := ⟨_, rfl⟩
                replace H : (if (ji6) = 0 then (none) else (if 0 ≤ x4_1 then (if x4_1 < (l0.length : Int) then (if (Int.tmod (IntKind.u64.wrap (Int.tdiv (Int.tmod x3_1 256) (ji6))) 2) = (Int.tmod (IntKind.u64.wrap (Int.tdiv (IntKind.u64.wrap (rd l0 x4_1)) (ji6))) 2) then (estuaryref04_Sum.l1 k2 l0 x3_2 x4_1 (Int.tmod x3_1 256) (wrap64 (x6_2 + 1))) else (estuaryref04_Sum.l1 k2 l0 (IntKind.u64.wrap (x3_2 + (ji6))) x4_1 (Int.tmod x3_1 256) (wrap64 (x6_2 + 1)))) else (none)) else (none))) = some r := by first | (rw [hji6] at H; exact H) | (simp only [hji6] at H ⊢; exact H)
                have hji6_ : (IntKind.u64.wrap (1 * 2 ^ min (ji4).toNat 64)) = ji6 := hji6
                have hji6z : (ji4) ≤ 64 → (IntKind.u64.wrap (1 * 2 ^ (ji4).toNat)) = ji6 := shl_small hji6
                have hji6u : (IntKind.u64.wrap (2 ^ min (ji4).toNat 64)) = ji6 := by have h_ := hji6_; rw [Int.one_mul] at h_; exact h_
                have hji6v : (ji4) ≤ 64 → (IntKind.u64.wrap (2 ^ (ji4).toNat)) = ji6 := fun hle_ => by have h_ := hji6z hle_; rw [Int.one_mul] at h_; exact h_
                by_cases c7 : (ji6) = 0
                · rw [if_pos c7] at H
                  exact absurd H (by simp)
                · rw [if_neg c7] at H
                  have c7b0 : ((ji6) == 0) = false := beq_eq_false_iff_ne.mpr c7
                  have c7b1 : ((ji6) != 0) = true := bne_iff_ne.mpr c7
                  by_cases c8 : 0 ≤ x4_1
                  · rw [if_pos c8] at H
                    have c8b0 : decide (0 ≤ x4_1) = true := decide_eq_true c8
                    clear c8
                    by_cases c9 : x4_1 < (l0.length : Int)
                    · rw [if_pos c9] at H
                      have c9b0 : decide (x4_1 < (l0.length : Int)) = true := decide_eq_true c9
                      clear c9
                      by_cases c10 : (Int.tmod (IntKind.u64.wrap (Int.tdiv (Int.tmod x3_1 256) (ji6))) 2) = (Int.tmod (IntKind.u64.wrap (Int.tdiv (IntKind.u64.wrap (rd l0 x4_1)) (ji6))) 2)
                      · rw [if_pos c10] at H
                        have c10b0 : ((Int.tmod (IntKind.u64.wrap (Int.tdiv (Int.tmod x3_1 256) (ji6))) 2) == (Int.tmod (IntKind.u64.wrap (Int.tdiv (IntKind.u64.wrap (rd l0 x4_1)) (ji6))) 2)) = true := beq_iff_eq.mpr c10
                        have c10b1 : ((Int.tmod (IntKind.u64.wrap (Int.tdiv (Int.tmod x3_1 256) (ji6))) 2) != (Int.tmod (IntKind.u64.wrap (Int.tdiv (IntKind.u64.wrap (rd l0 x4_1)) (ji6))) 2)) = false := bne_eq_false_iff_eq.mpr c10
                        clear c10
                        have H' := Aside0.mk H
                        clear H
                        have p166 : 0 ≤ (x4_1 : Int) := of_decide_eq_true (by first | (with_reducible assumption) | assumption)
                        have q166 : x4_1 < (l0.length : Int) := of_decide_eq_true (by first | (with_reducible assumption) | assumption)
                        obtain ⟨ad166, e166, hx166_0⟩ := Kd.at_int HR0.out x4_1 p166 q166
                        cases e166
                        replace p166 := eq_true p166
                        replace q166 := eq_true q166
                        go_wp2
                        repeat (go_quiet (fail); try go_wp2)
                        go_roundg k2
                        case measure => have := HK1.out; have := HK2.out; omega
                        case rel => exact ⟨(x3_2), (wrap64 (x6_2 + 1)), (by first | rfl | (simp; done) | (simp [*]; done)), (by first | rfl | (simp; done) | (simp [*]; done)), H', ⟨by have := HK1.out; have := HK2.out; omega⟩, by repeat (first | exact Drawn0.refl _ | apply Drawn0.step)⟩
                      · rw [if_neg c10] at H
                        have c10b0 : ((Int.tmod (IntKind.u64.wrap (Int.tdiv (Int.tmod x3_1 256) (ji6))) 2) == (Int.tmod (IntKind.u64.wrap (Int.tdiv (IntKind.u64.wrap (rd l0 x4_1)) (ji6))) 2)) = false := beq_eq_false_iff_ne.mpr c10
                        have c10b1 : ((Int.tmod (IntKind.u64.wrap (Int.tdiv (Int.tmod x3_1 256) (ji6))) 2) != (Int.tmod (IntKind.u64.wrap (Int.tdiv (IntKind.u64.wrap (rd l0 x4_1)) (ji6))) 2)) = true := bne_iff_ne.mpr c10
                        have H' := Aside0.mk H
                        clear H
                        have p166 : 0 ≤ (x4_1 : Int) := of_decide_eq_true (by first | (with_reducible assumption) | assumption)
                        have q166 : x4_1 < (l0.length : Int) := of_decide_eq_true (by first | (with_reducible assumption) | assumption)
                        obtain ⟨ad166, e166, hx166_0⟩ := Kd.at_int HR0.out x4_1 p166 q166
                        cases e166
                        replace p166 := eq_true p166
                        replace q166 := eq_true q166
                        go_wp2
                        repeat (go_quiet (fail); try go_wp2)
                        go_roundg k2
                        case measure => have := HK1.out; have := HK2.out; omega
                        case rel => exact ⟨(IntKind.u64.wrap (x3_2 + (ji6))), (wrap64 (x6_2 + 1)), (by first | rfl | (simp; done) | (simp only [← hji6] <;> (first | rfl | simp)) | (simp [*]; done)), (by first | rfl | (simp; done) | (simp [*]; done)), H', ⟨by have := HK1.out; have := HK2.out; omega⟩, by repeat (first | exact Drawn0.refl _ | apply Drawn0.step)⟩
                    · rw [if_neg c9] at H
                      exact absurd H (by simp)
                  · rw [if_neg c8] at H
                    exact absurd H (by simp)
              · rw [if_neg c5] at H
                exact absurd H (by simp)
            · rw [if_neg c3] at H
              have c3b0 : decide (x6_2 < 8) = false := decide_eq_false c3
              clear c3
              have H' := Aside0.mk H
              clear H
              go_wp2
              repeat (go_quiet (fail); try go_wp2)
              go_roundg k2
              case measure => have := HK1.out; have := HK2.out; omega
              case rel => exact ⟨(Int.tmod (IntKind.u64.wrap (x3_2 * 16777619)) 4294967296), (wrap64 (x4_1 + 1)), (by first | rfl | (simp; done) | (simp [*]; done)), (by first | rfl | (simp; done) | (simp [*]; done)), H', ⟨by have := HK1.out; have := HK2.out; omega⟩, by repeat (first | exact Drawn0.refl _ | apply Drawn0.step)⟩
      · rw [if_neg c2] at H
        have c2b0 : decide (x4_1 < (l0.length : Int)) = false := decide_eq_false c2
        clear c2
        obtain rfl := Option.some.inj H
        go_wp2
        repeat (go_quiet (fail); try go_wp2)
        go_ret
        exact ⟨by first | rfl | (simp; done) | (simp [*]; done), by repeat (first | exact Drawn0.refl _ | apply Drawn0.step)⟩
def estuaryref04_four.f (a0 : Int) : Option (List Int) := some (([(a0) % 256, ((Int.tdiv a0 256) % 4294967296) % 256, ((Int.tdiv a0 65536) % 4294967296) % 256, ((Int.tdiv a0 16777216) % 4294967296) % 256] : List Int))
set_option maxHeartbeats 8000000 in
set_option maxRecDepth 100000 in
theorem estuaryref04_four.calls (a0 : Int) (r : List Int) (w : World) (h : estuaryref04_four.f a0 = some r) :
    Calls Try.prog 51 #[.int .u32 a0] w fun e w' => ∃ v0_ : Value, e = .returned (v0_) ∧ Kd.R (Kd.int .u8) 5 w' w.heap.size (fun _ => True) v0_ r ∧ Below w.heap.size w w' := by
  have HB := Aside0.mk (Below.refl w.heap.size w)
  have H : (some (([(a0) % 256, ((Int.tdiv a0 256) % 4294967296) % 256, ((Int.tdiv a0 65536) % 4294967296) % 256, ((Int.tdiv a0 16777216) % 4294967296) % 256] : List Int))) = some r := h
  clear h
  obtain ⟨y163, hy163⟩ : ∃ y_ : List Int, y_ = (([(a0) % 256, ((Int.tdiv a0 256) % 4294967296) % 256, ((Int.tdiv a0 65536) % 4294967296) % 256, ((Int.tdiv a0 16777216) % 4294967296) % 256] : List Int)) := ⟨_, rfl⟩
  replace H : (some y163) = some r := by first | (rw [hy163]; with_reducible exact H) | (have H2_ := (Option.bind_some _ _).symm.trans H; rw [hy163]; with_reducible exact H2_) | (have H2_ := (Option.bind_some _ _).symm.trans H; with_reducible exact H2_) | with_reducible exact H | (rw [hy163]; exact H) | exact H
  have Ny163 := Aside0.mk hy163
  clear hy163
  obtain rfl := Option.some.inj H
  go_enter Try.func51, Try.ntmps51
  go_wp2_with (first | ((with_reducible refine gate_dst (N := 14) rfl ?_); refine Kd.R_lit (Kd.int .u8) _ 5 ?hg (N := 14) ?hd (xs := ([(a0) % 256, ((Int.tdiv a0 256) % 4294967296) % 256, ((Int.tdiv a0 65536) % 4294967296) % 256, ((Int.tdiv a0 16777216) % 4294967296) % 256] : List Int)) (inner := [.int .u8 ((a0) % 256), .int .u8 (((Int.tdiv a0 256) % 4294967296) % 256), .int .u8 (((Int.tdiv a0 65536) % 4294967296) % 256), .int .u8 (((Int.tdiv a0 16777216) % 4294967296) % 256)]) (ok := fun _ => True) (okp := fun _ => True) ?hr ?hp (fun _ hk => hk) trivial (Below.refl _ _) (Nat.le_refl _) (by simp) ?_; (case hd => rfl); (case hg => rfl); (case hr => first | (go_simp; done) | (go_simp; rfl)); (case hp => exact (Reps.one (show Kd.M (Kd.int .u8) _ _ _ ((a0) % 256) [.int .u8 ((a0) % 256)] from rfl) (Reps.one (show Kd.M (Kd.int .u8) _ _ _ (((Int.tdiv a0 256) % 4294967296) % 256) [.int .u8 (((Int.tdiv a0 256) % 4294967296) % 256)] from rfl) (Reps.one (show Kd.M (Kd.int .u8) _ _ _ (((Int.tdiv a0 65536) % 4294967296) % 256) [.int .u8 (((Int.tdiv a0 65536) % 4294967296) % 256)] from rfl) (Reps.one (show Kd.M (Kd.int .u8) _ _ _ (((Int.tdiv a0 16777216) % 4294967296) % 256) [.int .u8 (((Int.tdiv a0 16777216) % 4294967296) % 256)] from rfl) (Reps.none _ _)))))); intro v164 w2 ho3 hb hg_ hnew_; clear hg_ hnew_; (first | rw [← Ny163.out] at ho3 | (simp only [Int.reduceToNat] at ho3; rw [← Ny163.out] at ho3)); have n0_ := Aside0.mk (Kd.R_lower ho3 (below_size (by repeat (first | (with_reducible first | exact HB.out | apply below_alloc | apply pw_below_drewN | apply below_drew1) | exact HB.out)))); have n1_ := Aside0.mk (below_step (by repeat (first | (with_reducible first | exact HB.out | apply below_alloc | apply pw_below_drewN | apply below_drew1) | exact HB.out)) hb); clear HB; have HO165 := n0_; have HB := n1_; clear n0_ n1_; clear hb ho3))
  go_ret
  exact ⟨_, by first | rfl | (simp [errW_none, errW_some] <;> rfl) | (simp [*, errW_none, errW_some] <;> rfl), by (with_reducible repeat (first | apply Kd.R_alloc | apply Kd.R_drewN | apply Kd.R_drew)); exact HO165.out, by repeat (first | (with_reducible first | exact HB.out | apply below_alloc | apply pw_below_drewN | apply below_drew1) | exact HB.out)⟩
def estuaryref04_Wrap.f (k : Nat) (l0 : List Int) : Option (List Int × Int) := if (l0.length : Int) > 16376 then (some (([] : List Int), 7)) else ((estuaryref04_four.f (((l0.length : Int)) % 4294967296)).bind fun t167 => ((estuaryref04_Sum.f k l0).bind fun t170 => ((estuaryref04_four.f t170).bind fun t171 => (if t167.length + t171.length < 140737488355328 then ((some (t167 ++ t171 : List Int)).bind fun y174 => (if y174.length + l0.length < 140737488355328 then (some ((y174 ++ l0), 0)) else (none))) else (none)))))
set_option maxHeartbeats 8000000 in
set_option maxRecDepth 100000 in
theorem estuaryref04_Wrap.calls (k : Nat) (A0 : Option Addr) (c0 : Nat) (l0 : List Int) (r1 : List Int) (r2 : Int) (w : World) (hr0 : Kd.C (Kd.int .u8) w A0 l0.length l0) (hc0 : l0.length ≤ c0) (h : estuaryref04_Wrap.f k l0 = some (r1, r2)) :
    Calls Try.prog 30 #[.slice A0 l0.length c0] w fun e w' => ∃ v0_ : Value, e = .returned (.tuple #[v0_, .int .i64 r2]) ∧ Kd.R (Kd.int .u8) 5 w' w.heap.size (fun _ => True) v0_ r1 ∧ Below w.heap.size w w' := by
  have HR0 := Aside0.mk hr0
  have HC0 := Aside0.mk hc0
  clear hr0 hc0
  have HB := Aside0.mk (Below.refl w.heap.size w)
  have H : (if (l0.length : Int) > 16376 then (some (([] : List Int), 7)) else ((estuaryref04_four.f (((l0.length : Int)) % 4294967296)).bind fun t167 => ((estuaryref04_Sum.f k l0).bind fun t170 => ((estuaryref04_four.f t170).bind fun t171 => (if t167.length + t171.length < 140737488355328 then ((some (t167 ++ t171 : List Int)).bind fun y174 => (if y174.length + l0.length < 140737488355328 then (some ((y174 ++ l0), 0)) else (none))) else (none)))))) = some (r1, r2) := h
  clear h
  by_cases c2 : (l0.length : Int) > 16376
  · rw [if_pos c2] at H
    have c2b0 : decide (16376 < (l0.length : Int)) = true := decide_eq_true c2
    have c2b1 : decide (16376 < l0.length) = true := decide_eq_true (by omega)
    clear c2
    simp only [Option.some.injEq, Prod.mk.injEq] at H
    obtain ⟨rfl, rfl⟩ := H
    go_enter Try.func30, Try.ntmps30
    go_wp2
    go_ret2
    exact ⟨_, by first | rfl | (simp [errW_none, errW_some] <;> rfl) | (simp [*, errW_none, errW_some] <;> rfl), by first | exact Kd.R_nil _ _ _ _ _ | exact Kd.N_nil _ _ _ _ _ | exact Kd.V_nil _ _ _ _ _ | exact Kd.Q_nil _ _ _ _ _ | exact Kd.S_nil _ _ _ _ _, by repeat (first | (with_reducible first | exact HB.out | apply below_alloc | apply pw_below_drewN | apply below_drew1) | exact HB.out)⟩
  · rw [if_neg c2] at H
    have c2b0 : decide (16376 < (l0.length : Int)) = false := decide_eq_false c2
    have c2b1 : decide (16376 < l0.length) = false := decide_eq_false (by omega)
    clear c2
    replace H := Option.bind_eq_some_iff.mp H
    obtain ⟨t167, A30, H⟩ := H
    replace H : ((estuaryref04_Sum.f k l0).bind fun t170 => ((estuaryref04_four.f t170).bind fun t171 => (if t167.length + t171.length < 140737488355328 then ((some (t167 ++ t171 : List Int)).bind fun y174 => (if y174.length + l0.length < 140737488355328 then (some ((y174 ++ l0), 0)) else (none))) else (none)))) = some (r1, r2) := H
    have A3 := Aside0.mk A30
    clear A30
    replace H := Option.bind_eq_some_iff.mp H
    obtain ⟨t170, A40, H⟩ := H
    replace H : ((estuaryref04_four.f t170).bind fun t171 => (if t167.length + t171.length < 140737488355328 then ((some (t167 ++ t171 : List Int)).bind fun y174 => (if y174.length + l0.length < 140737488355328 then (some ((y174 ++ l0), 0)) else (none))) else (none))) = some (r1, r2) := H
    have A4 := Aside0.mk A40
    clear A40
    replace H := Option.bind_eq_some_iff.mp H
    obtain ⟨t171, A50, H⟩ := H
    replace H : (if t167.length + t171.length < 140737488355328 then ((some (t167 ++ t171 : List Int)).bind fun y174 => (if y174.length + l0.length < 140737488355328 then (some ((y174 ++ l0), 0)) else (none))) else (none)) = some (r1, r2) := H
    have A5 := Aside0.mk A50
    clear A50
    by_cases c6 : t167.length + t171.length < 140737488355328
    · rw [if_pos c6] at H
      have LMc6 := Aside0.mk c6
      clear c6
      obtain ⟨y174, hy174⟩ : ∃ y_ : List Int, y_ = (t167 ++ t171) := ⟨_, rfl⟩
      replace H : (if y174.length + l0.length < 140737488355328 then (some ((y174 ++ l0), 0)) else (none)) = some (r1, r2) := by first | (rw [hy174]; with_reducible exact H) | (have H2_ := (Option.bind_some _ _).symm.trans H; rw [hy174]; with_reducible exact H2_) | (have H2_ := (Option.bind_some _ _).symm.trans H; with_reducible exact H2_) | with_reducible exact H | (rw [hy174]; exact H) | exact H
      have Ny174 := Aside0.mk hy174
      clear hy174
      by_cases c7 : y174.length + l0.length < 140737488355328
      · rw [if_pos c7] at H
        have LMc7 := Aside0.mk c7
        clear c7
        obtain ⟨y177, hy177⟩ : ∃ y_ : List Int, y_ = (y174 ++ l0) := ⟨_, rfl⟩
        replace H : (some (y177, 0)) = some (r1, r2) := by first | (rw [hy177]; with_reducible exact H) | (have H2_ := (Option.bind_some _ _).symm.trans H; rw [hy177]; with_reducible exact H2_) | (have H2_ := (Option.bind_some _ _).symm.trans H; with_reducible exact H2_) | with_reducible exact H | (rw [hy177]; exact H) | exact H
        have Ny177 := Aside0.mk hy177
        clear hy177
        simp only [Option.some.injEq, Prod.mk.injEq] at H
        obtain ⟨rfl, rfl⟩ := H
        go_enter Try.func30, Try.ntmps30
        go_wp2_with (first | ((with_reducible refine gate_callee (f := 51) rfl ?_); refine goesL_ (some 11) rfl rfl Try.func51 (by kernel_rfl) rfl #[.int .u32 (((l0.length : Int)) % 4294967296)] rfl (by (try simp only [List.map_toArray, List.map_cons, List.map_nil]); first | done | rfl | (simp only [List.length_drop, List.length_take]; rfl)) ?_; (with_reducible refine (estuaryref04_four.calls (((l0.length : Int)) % 4294967296) t167 _ A3.out).mono ?_); rintro e w8 ⟨v168, rfl, ho0, hb⟩; refine ⟨_, rfl, ?_⟩; have n0_ := Aside0.mk (Kd.R_lower ho0 (below_size (by repeat (first | (with_reducible first | exact HB.out | apply below_alloc | apply pw_below_drewN | apply below_drew1) | exact HB.out)))); have n1_ := Aside0.mk (below_step (by repeat (first | (with_reducible first | exact HB.out | apply below_alloc | apply pw_below_drewN | apply below_drew1) | exact HB.out)) hb); clear HB; have HO169 := n0_; have HB := n1_; clear n0_ n1_; (try clear hb); (try clear hb2); (try clear hk); (try clear hi); (try clear ho0)) | ((with_reducible refine gate_callee (f := 52) rfl ?_); refine goesL_ (some 13) rfl rfl Try.func52 (by kernel_rfl) rfl #[.slice A0 l0.length c0] rfl (by (try simp only [List.map_toArray, List.map_cons, List.map_nil]); first | done | rfl | (simp only [List.length_drop, List.length_take]; rfl)) ?_; (with_reducible refine (estuaryref04_Sum.calls k _ _ l0 t170 _ ?side1 ?side2 A4.out).mono ?_); (case side1 => repeat (first | exact (Kd.C_below HR0.out HB.out) | (with_reducible refine Kd.C_alloc ?_ _) | (with_reducible refine Kd.C_drewN ?_ _) | (with_reducible refine Kd.C_drew ?_))); (case side2 => exact HC0.out); rintro e w' ⟨rfl, ⟨nd, rfl⟩⟩; refine ⟨_, rfl, ?_⟩) | ((with_reducible refine gate_callee (f := 51) rfl ?_); refine goesL_ (some 14) rfl rfl Try.func51 (by kernel_rfl) rfl #[.int .u32 t170] rfl (by (try simp only [List.map_toArray, List.map_cons, List.map_nil]); first | done | rfl | (simp only [List.length_drop, List.length_take]; rfl)) ?_; (with_reducible refine (estuaryref04_four.calls t170 t171 _ A5.out).mono ?_); rintro e w9 ⟨v172, rfl, ho0, hb⟩; refine ⟨_, rfl, ?_⟩; have n0_ := Aside0.mk (Kd.R_elder' (by (with_reducible repeat (first | apply Kd.R_alloc | apply Kd.R_drewN | apply Kd.R_drew)); exact HO169.out) (Kd.R_base ho0) hb); have n1_ := Aside0.mk (Kd.R_lower (Kd.R_new' ho0 (Kd.R_lt (by (with_reducible repeat (first | apply Kd.R_alloc | apply Kd.R_drewN | apply Kd.R_drew)); exact HO169.out))) (below_size (by repeat (first | (with_reducible first | exact HB.out | apply below_alloc | apply pw_below_drewN | apply below_drew1) | exact HB.out)))); have n2_ := Aside0.mk (below_step (by repeat (first | (with_reducible first | exact HB.out | apply below_alloc | apply pw_below_drewN | apply below_drew1) | exact HB.out)) hb); clear HO169; clear HB; have HO169 := n0_; have HO173 := n1_; have HB := n2_; clear n0_ n1_ n2_; (try clear hb); (try clear hb2); (try clear hk); (try clear hi); (try clear ho0); obtain ⟨Ao11, co11, eo11⟩ := Kd.R_slice HO173.out; subst eo11) | ((with_reducible refine gate_builtin (b := .append) (xs := #[.tmp 11, .tmp 14]) rfl ?_); at_builtin; refine Kd.R_append_rows (Kd.int .u8) (w0 := w) w.heap.size rfl (.tmp 11) (.tmp 14) 30 5 (.int .u8 0) 1 rfl Try.underlying30 info5 rfl (by decide) (by omega) v168 t167 t171 _ _ _ (fun k_ => some k_ ≠ (.slice Ao11 t171.length co11 : Value).ownBlock) (fun _ => False) rfl rfl ?aO ?aR (fun _ _ h => h) (fun _ h => h.elim) ?aF ?aB ?aS ?aL ?_; (case aR => repeat (first | exact (Kd.R_reads' HO173.out).2.2 | (with_reducible refine Kd.C_alloc ?_ _) | (with_reducible refine Kd.C_drewN ?_ _) | (with_reducible refine Kd.C_drew ?_))); (case aB => exact (by repeat (first | (with_reducible first | exact HB.out | apply below_alloc | apply pw_below_drewN | apply below_drew1) | exact HB.out))); (case aF => exact (fun k_ hk => Kd.fresh' (Kd.R_lt (by (with_reducible repeat (first | apply Kd.R_alloc | apply Kd.R_drewN | apply Kd.R_drew)); exact HO173.out)) k_ hk)); (case aO => exact (by (with_reducible repeat (first | apply Kd.R_alloc | apply Kd.R_drewN | apply Kd.R_drew)); exact Kd.R_mono HO169.out (fun _ hk => hk.2))); (case aS => exact (below_size (by repeat (first | (with_reducible first | exact HB.out | apply below_alloc | apply pw_below_drewN | apply below_drew1) | exact HB.out)))); (case aL => have := LMc6.out; omega); intro v175 w10 ho hb hg hat; rw [← Ny174.out] at ho; have n0_ := Aside0.mk (Kd.R_after (ok := (fun _ => True)) (by (with_reducible repeat (first | apply Kd.R_alloc | apply Kd.R_drewN | apply Kd.R_drew)); exact HO173.out) hg hat); have n1_ := Aside0.mk (hb); have n2_ := Aside0.mk (ho); clear HO173; clear HB; clear HO169; have HO173 := n0_; have HB := n1_; have HO176 := n2_; clear n0_ n1_ n2_; clear ho hb hg hat) | ((with_reducible refine gate_builtin (b := .append) (xs := #[.tmp 16, .tmp 17]) rfl ?_); at_builtin; refine Kd.R_append_rows (Kd.int .u8) (w0 := w) w.heap.size rfl (.tmp 16) (.tmp 17) 30 5 (.int .u8 0) 1 rfl Try.underlying30 info5 rfl (by decide) (by omega) v175 y174 l0 _ _ _ (fun k_ => some k_ ≠ (.slice Ao11 t171.length co11 : Value).ownBlock) (fun _ => False) rfl rfl ?aO ?aR (fun _ _ h => h) (fun _ h => h.elim) ?aF ?aB ?aS ?aL ?_; (case aR => repeat (first | exact (Kd.C_below HR0.out HB.out) | (with_reducible refine Kd.C_alloc ?_ _) | (with_reducible refine Kd.C_drewN ?_ _) | (with_reducible refine Kd.C_drew ?_))); (case aB => exact (by repeat (first | (with_reducible first | exact HB.out | apply below_alloc | apply pw_below_drewN | apply below_drew1) | exact HB.out))); (case aF => exact (fun k_ hk => Kd.fresh' (Kd.R_lt (by (with_reducible repeat (first | apply Kd.R_alloc | apply Kd.R_drewN | apply Kd.R_drew)); exact HO173.out)) k_ hk)); (case aO => exact (by (with_reducible repeat (first | apply Kd.R_alloc | apply Kd.R_drewN | apply Kd.R_drew)); exact HO176.out)); (case aS => exact (below_size (by repeat (first | (with_reducible first | exact HB.out | apply below_alloc | apply pw_below_drewN | apply below_drew1) | exact HB.out)))); (case aL => have := LMc7.out; omega); intro v178 w12 ho hb hg hat; rw [← Ny177.out] at ho; have n0_ := Aside0.mk (Kd.R_after (ok := (fun _ => True)) (by (with_reducible repeat (first | apply Kd.R_alloc | apply Kd.R_drewN | apply Kd.R_drew)); exact HO173.out) hg hat); have n1_ := Aside0.mk (hb); have n2_ := Aside0.mk (ho); clear HO173; clear HB; clear HO176; have HO173 := n0_; have HB := n1_; have HO179 := n2_; clear n0_ n1_ n2_; clear ho hb hg hat))
        go_ret2
        exact ⟨_, by first | rfl | (simp [errW_none, errW_some] <;> rfl) | (simp [*, errW_none, errW_some] <;> rfl), by (with_reducible repeat (first | apply Kd.R_alloc | apply Kd.R_drewN | apply Kd.R_drew)); exact Kd.R_mono HO179.out (fun _ hk => trivial), by repeat (first | (with_reducible first | exact HB.out | apply below_alloc | apply pw_below_drewN | apply below_drew1) | exact HB.out)⟩
      · rw [if_neg c7] at H
        exact absurd H (by simp)
    · rw [if_neg c6] at H
      exact absurd H (by simp)
end Go.Proofs.Ytbbhdohjhipalaa.PNoteReads
end
section
namespace Go.Proofs.Ytbbhdohjhipalaa.PNoteReads
open Go.RowKit Go.Proofs.YtbbhdohjhipalaaW.PrintWords Go.Proofs.YtbbhdohjhipalaaW.PrintLast Go.Proofs.YtbbhdohjhipalaaW.PrintMore
open Go.Proofs.Ytbbhdohjhipalaa.Flow
set_option linter.unusedVariables false
set_option linter.unusedSimpArgs false
theorem u64_w (x : Int) : IntKind.u64.wrap x = x % 18446744073709551616 := by simp [IntKind.wrap, IntKind.bits, IntKind.signed]
theorem shl_one (i : Nat) (hi : i ≤ 8) : shl .u64 1 (IntKind.u64.wrap (i : Int)) = ((2 ^ i : Nat) : Int) := by
  have e : IntKind.u64.wrap (i : Int) = (i : Int) := by rw [u64_w]; omega
  rw [e]
  match i, hi with
  | 0, _ => rfl
  | 1, _ => rfl
  | 2, _ => rfl
  | 3, _ => rfl
  | 4, _ => rfl
  | 5, _ => rfl
  | 6, _ => rfl
  | 7, _ => rfl
  | 8, _ => rfl
  | i + 9, h => omega
theorem xor_high (s c : Nat) (hc : c < 256) : s ^^^ c = (s - s % 256) + (s % 256 ^^^ c) := by
  have h1 : (s ^^^ c) / 256 = s / 256 := by
    have h := Nat.xor_div_two_pow (a := s) (b := c) (n := 8)
    rw [show (2 : Nat) ^ 8 = 256 from rfl, Nat.div_eq_of_lt hc, Nat.xor_zero] at h
    exact h
  have h2 : (s ^^^ c) % 256 = (s % 256) ^^^ c := by
    have h := Nat.xor_mod_two_pow (a := s) (b := c) (n := 8)
    rw [show (2 : Nat) ^ 8 = 256 from rfl, Nat.mod_eq_of_lt hc] at h
    exact h
  have h3 := Nat.div_add_mod (s ^^^ c) 256
  have h4 := Nat.div_add_mod s 256
  rw [h1, h2] at h3
  omega
theorem bit_step (x y i : Nat) : (x ^^^ y) % 2 ^ (i + 1) = (x ^^^ y) % 2 ^ i + (if x / 2 ^ i % 2 = y / 2 ^ i % 2 then 0 else 2 ^ i) := by
  rw [Nat.pow_succ, Nat.mod_mul, Nat.xor_div_two_pow]
  have h0 := Nat.xor_mod_two_pow (a := x / 2 ^ i) (b := y / 2 ^ i) (n := 1)
  rw [show (2 : Nat) ^ 1 = 2 from rfl] at h0
  rw [h0]
  have h1 := Nat.mod_two_eq_zero_or_one (x / 2 ^ i)
  have h2 := Nat.mod_two_eq_zero_or_one (y / 2 ^ i)
  rcases h1 with h1 | h1 <;> rcases h2 with h2 | h2 <;> rw [h1, h2] <;> simp
theorem quo_bit (L p : Nat) (hL : L < 256) : Int.tmod (IntKind.u64.wrap (Int.tdiv (L : Int) (p : Int))) 2 = ((L / p % 2 : Nat) : Int) := by
  rw [Int.tdiv_eq_ediv_of_nonneg (by omega), ← Int.natCast_ediv, u64_w]
  have h : L / p ≤ L := Nat.div_le_self _ _
  generalize L / p = q at h ⊢
  rw [Int.emod_eq_of_lt (by omega) (by omega), Int.tmod_eq_emod_of_nonneg (by omega)]
  omega
theorem last_mul (y : Nat) (h : y < 4294967296) : Int.tmod (IntKind.u64.wrap ((y : Int) * 16777619)) 4294967296 = ((y * 16777619 % 4294967296 : Nat) : Int) := by
  rw [u64_w, Int.emod_eq_of_lt (by omega) (by omega), Int.tmod_eq_emod_of_nonneg (by omega)]
  omega
theorem bit_add (X x p y : Nat) (hx : x = y + p) (hy : y < p) (hp : p ≤ 128) (hX : X + 256 ≤ 4294967296) : IntKind.u64.wrap (((X + y : Nat) : Int) + (p : Int)) = ((X + x : Nat) : Int) := by
  rw [u64_w]
  omega
theorem u64_nonneg (x : Int) : 0 ≤ IntKind.u64.wrap x := by rw [u64_w]; omega
theorem u64_small (c : Nat) (h : c < 256) : IntKind.u64.wrap (c : Int) = (c : Int) := by rw [u64_w]; omega
theorem wrap_succ (i : Nat) (h : i ≤ 1000000) : wrap64 ((i : Int) + 1) = ((i + 1 : Nat) : Int) := by rw [wrap_id (by omega) (by omega)]; omega
theorem cast_ne (p : Nat) (h : 0 < p) : ¬ ((p : Int) = 0) := by omega
theorem cast_lt8 (i : Nat) (h : i < 8) : (i : Int) < 8 := by omega
theorem refsum_step0 (b : List Int) (at_ : Nat) (hat : at_ < b.length) (X L c x y p i k : Nat) (hL : L < 256) (hc : c < 256) (hr : rd b (at_ : Int) = (c : Int)) (hX : X + 256 ≤ 4294967296) (hi : i < 8) (hp : 0 < p) (hp8 : p ≤ 128) (hm : y < p)
    (hs : x = y + (if L / p % 2 = c / p % 2 then 0 else p)) (hsh : shl .u64 1 (IntKind.u64.wrap (i : Int)) = (p : Int)) :
    estuaryref04_Sum.l1 (k + 1) b ((X + y : Nat) : Int) (at_ : Int) (L : Int) (i : Int) = estuaryref04_Sum.l1 k b ((X + x : Nat) : Int) (at_ : Int) (L : Int) ((i + 1 : Nat) : Int) := by
  have q1 := quo_bit L p hL
  have q2 := quo_bit c p hc
  rw [estuaryref04_Sum.l1, if_pos (cast_lt8 i hi), if_pos (u64_nonneg _), hsh, if_neg (cast_ne p hp), if_pos (Int.natCast_nonneg _), if_pos (Int.ofNat_lt.2 hat), hr, u64_small c hc, q1, q2, wrap_succ i (Nat.le_of_lt (Nat.lt_trans hi (by decide)))]
  by_cases hb : L / p % 2 = c / p % 2
  · rw [if_pos (by rw [hb])]
    rw [if_pos hb, Nat.add_zero] at hs
    rw [hs]
  · rw [if_neg (fun h => hb (by exact_mod_cast h))]
    rw [if_neg hb] at hs
    rw [bit_add X x p y hs hm hp8 hX]
theorem two7 (i : Nat) (h : i < 8) : 2 ^ i ≤ 128 := Nat.pow_le_pow_right (n := 2) (show 0 < 2 by decide) (show i ≤ 7 by omega)
theorem refsum_step (b : List Int) (at_ : Nat) (hat : at_ < b.length) (X L c : Nat) (hL : L < 256) (hc : c < 256) (hr : rd b (at_ : Int) = (c : Int)) (hX : X + 256 ≤ 4294967296) (i k : Nat) (hi : i < 8) :
    estuaryref04_Sum.l1 (k + 1) b ((X + (L ^^^ c) % 2 ^ i : Nat) : Int) (at_ : Int) (L : Int) (i : Int) = estuaryref04_Sum.l1 k b ((X + (L ^^^ c) % 2 ^ (i + 1) : Nat) : Int) (at_ : Int) (L : Int) ((i + 1 : Nat) : Int) :=
  refsum_step0 b at_ hat X L c _ _ (2 ^ i) i k hL hc hr hX hi (Nat.two_pow_pos i) (two7 i hi) (Nat.mod_lt _ (Nat.two_pow_pos i)) (bit_step L c i) (shl_one i (Nat.le_of_lt hi))
theorem refsum_l1 (b : List Int) (at_ : Nat) (hat : at_ < b.length) (X L c : Nat) (hL : L < 256) (hc : c < 256) (hr : rd b (at_ : Int) = (c : Int)) (hX : X + 256 ≤ 4294967296) (R : Option Int) (K0 : Nat)
    (hR : ∀ K, K0 ≤ K → estuaryref04_Sum.l0 K b ((((X + (L ^^^ c)) * 16777619 % 4294967296 : Nat)) : Int) (wrap64 ((at_ : Int) + 1)) = R) :
    ∀ (m i K : Nat), i + m = 8 → m + 1 + K0 ≤ K → estuaryref04_Sum.l1 K b ((X + (L ^^^ c) % 2 ^ i : Nat) : Int) (at_ : Int) (L : Int) (i : Int) = R := by
  intro m
  induction m with
  | zero =>
    intro i K hi hK
    obtain ⟨k, rfl⟩ : ∃ k, K = k + 1 := ⟨K - 1, by omega⟩
    obtain rfl : i = 8 := by omega
    have hx : L ^^^ c < 256 := Nat.xor_lt_two_pow (n := 8) hL hc
    have e8 : (L ^^^ c) % 2 ^ 8 = L ^^^ c := Nat.mod_eq_of_lt hx
    rw [estuaryref04_Sum.l1, if_neg (by decide), e8, last_mul _ (by omega)]
    exact hR k (by omega)
  | succ m ih =>
    intro i K hi hK
    obtain ⟨k, rfl⟩ : ∃ k, K = k + 1 := ⟨K - 1, by omega⟩
    rw [refsum_step b at_ hat X L c hL hc hr hX i k (by omega)]
    exact ih (i + 1) k (by omega) (by omega)
theorem refsum_l0 (b : List Int) (hb : Bytes b) (hl : b.length ≤ 1000000) : ∀ (m K at_ S : Nat), 10 * m + 1 ≤ K → at_ + m = b.length → S < 4294967296 → estuaryref04_Sum.l0 K b (S : Int) (at_ : Int) = some (fnv (S : Int) (b.drop at_))
  | 0, K, at_, S, hK, hm, hS => by
    obtain ⟨k, rfl⟩ : ∃ k, K = k + 1 := ⟨K - 1, by omega⟩
    rw [estuaryref04_Sum.l0, if_neg (by omega), List.drop_of_length_le (by omega)]
    show some ((S : Int) % 4294967296) = some (S : Int)
    congr 1
    omega
  | m + 1, K, at_, S, hK, hm, hS => by
    obtain ⟨k, rfl⟩ : ∃ k, K = k + 1 := ⟨K - 1, by omega⟩
    have hlt : at_ < b.length := by omega
    have hc := hb b[at_] (List.getElem_mem hlt)
    have hr := rd_at b at_ hlt
    obtain ⟨c, hcn⟩ : ∃ c : Nat, b[at_] = (c : Int) := ⟨b[at_].toNat, by omega⟩
    rw [hcn] at hc hr
    have hmod : Int.tmod (S : Int) 256 = ((S % 256 : Nat) : Int) := by rw [Int.tmod_eq_emod_of_nonneg (by omega)]; omega
    have hsub : IntKind.u64.wrap ((S : Int) - ((S % 256 : Nat) : Int)) = ((S - S % 256 + (S % 256 ^^^ c) % 2 ^ 0 : Nat) : Int) := by
      rw [u64_w, Nat.pow_zero, Nat.mod_one]
      omega
    have ha1 : wrap64 ((at_ : Int) + 1) = ((at_ + 1 : Nat) : Int) := by rw [wrap_id (by omega) (by omega)]; omega
    rw [estuaryref04_Sum.l0, if_pos (by omega), hmod, hsub]
    have hx := xor_high S c (by omega)
    have hstep : stepS (S : Int) (c : Int) = (((S - S % 256 + (S % 256 ^^^ c)) * 16777619 % 4294967296 : Nat) : Int) := by
      rw [stepS_eq S c hS (by omega), hx]
      generalize S - S % 256 + (S % 256 ^^^ c) = y
      omega
    have hd : fnv (S : Int) (b.drop at_) = fnv (((S - S % 256 + (S % 256 ^^^ c)) * 16777619 % 4294967296 : Nat) : Int) (b.drop (at_ + 1)) := by
      rw [List.drop_eq_getElem_cons hlt, hcn, ← hstep]
      rfl
    rw [hd]
    refine refsum_l1 b at_ hlt (S - S % 256) (S % 256) c (by omega) (by omega) hr (by omega) _ (10 * m + 1) (fun K' hK' => ?_) 8 0 k rfl (by omega)
    rw [ha1]
    exact refsum_l0 b hb hl m K' (at_ + 1) _ hK' (by omega) (Nat.mod_lt _ (by decide))
theorem refsum_f (b : List Int) (hb : Bytes b) (hl : b.length ≤ 1000000) (K : Nat) (hK : 10 * b.length + 1 ≤ K) : estuaryref04_Sum.f K b = some (fnv 2166136261 b) :=
  refsum_l0 b hb hl b.length K 0 2166136261 hK (by omega) (by omega)
theorem four_f (n : Nat) (hn : n < 4294967296) : estuaryref04_four.f (n : Int) = some (lowl (n : Int) 4 0) := by
  have e : ∀ i : Nat, i ≤ 8 → (shr .u64 (n : Int) (8 * (i : Int))) % 256 = ((n / 2 ^ (8 * i) % 256 : Nat) : Int) := fun i hi => by
    rw [shr_nat n i hi]
    omega
  show some [(n : Int) % 256, ((Int.tdiv n 256) % 4294967296) % 256, ((Int.tdiv n 65536) % 4294967296) % 256, ((Int.tdiv n 16777216) % 4294967296) % 256] = _
  simp only [lowl]
  rw [e 0 (by omega), e (0 + 1) (by omega), e (0 + 1 + 1) (by omega), e (0 + 1 + 1 + 1) (by omega), Int.tdiv_eq_ediv_of_nonneg (by omega), Int.tdiv_eq_ediv_of_nonneg (by omega), Int.tdiv_eq_ediv_of_nonneg (by omega)]
  have e0 : (n : Int) % 256 = ((n / 2 ^ (8 * 0) % 256 : Nat) : Int) := by
    rw [show (2 : Nat) ^ (8 * 0) = 1 from rfl]; omega
  have e1 : ((n : Int) / 256) % 4294967296 % 256 = ((n / 2 ^ (8 * (0 + 1)) % 256 : Nat) : Int) := by
    rw [show (2 : Nat) ^ (8 * (0 + 1)) = 256 from rfl]; omega
  have e2 : ((n : Int) / 65536) % 4294967296 % 256 = ((n / 2 ^ (8 * (0 + 1 + 1)) % 256 : Nat) : Int) := by
    rw [show (2 : Nat) ^ (8 * (0 + 1 + 1)) = 65536 from rfl]; omega
  have e3 : ((n : Int) / 16777216) % 4294967296 % 256 = ((n / 2 ^ (8 * (0 + 1 + 1 + 1)) % 256 : Nat) : Int) := by
    rw [show (2 : Nat) ^ (8 * (0 + 1 + 1 + 1)) = 16777216 from rfl]; omega
  rw [e0, e1, e2, e3]
def errN (b : List Int) : Int := if 16376 < b.length then 7 else 0
theorem refwrap_f (b : List Int) (hb : Bytes b) (hl : b.length ≤ 1000000) (K : Nat) (hK : 10 * b.length + 1 ≤ K) : estuaryref04_Wrap.f K b = some (frameB b, errN b) := by
  unfold estuaryref04_Wrap.f frameB errN
  by_cases h : 16376 < b.length
  · rw [if_pos (by omega), if_pos h, if_pos h]
  · have hS := fnv_range b 2166136261 (by omega)
    obtain ⟨S, hSn⟩ := Int.eq_ofNat_of_zero_le hS.1
    have e : (b.length : Int) % 4294967296 = (b.length : Int) := by omega
    rw [if_neg (by omega), if_neg h, if_neg h, e, four_f b.length (by omega), Option.bind_some, refsum_f b hb hl K hK, Option.bind_some, hSn, four_f S (by omega), Option.bind_some, if_pos (by rw [lowl_len, lowl_len]; omega), Option.bind_some, if_pos (by rw [List.length_append, lowl_len, lowl_len]; omega)]
end Go.Proofs.Ytbbhdohjhipalaa.PNoteReads
end
section
namespace Go.Proofs.Ytbbhdohjhipalaa.PNoteReads
open Go.RowKit Go.Proofs.YtbbhdohjhipalaaW.PrintWords Go.Proofs.YtbbhdohjhipalaaW.PrintLast Go.Proofs.YtbbhdohjhipalaaW.PrintMore
open Go.Proofs.Ytbbhdohjhipalaa.Flow
set_option linter.unusedVariables false
set_option linter.unusedSimpArgs false
theorem refwrap_calls (w : World) (A0 : Option Addr) (c0 : Nat) (b : List Int) (hC : (Kd.int .u8).C w A0 b.length b) (hc : b.length ≤ c0) (hb : Bytes b) (hl : b.length ≤ 1000000) : Calls Try.prog 30 #[.slice A0 b.length c0] w fun e w' => ∃ A' n' c', e = .returned (.tuple #[.slice A' n' c', .int .i64 (errN b)]) ∧ Own .u8 5 w' w.heap.size w.heap.size A' n' c' (frameB b) ∧ Below w.heap.size w w' := by
  refine (estuaryref04_Wrap.calls (10 * b.length + 1) A0 c0 b _ _ w hC hc (refwrap_f b hb hl _ (Nat.le_refl _))).mono ?_
  rintro e w' ⟨v0, rfl, hR, hB⟩
  obtain ⟨A', c', rfl, hle, hR2⟩ := R_shape hR
  exact ⟨A', _, c', rfl, Own.born hR2 (Nat.le_refl _), hB⟩
end Go.Proofs.Ytbbhdohjhipalaa.PNoteReads
end
section
namespace Go.Proofs.Ytbbhdohjhipalaa.Flow.R
open Go.Proofs.Ytbbhdohjhipalaa.Flow
open Go.RowKit Go.Proofs.YtbbhdohjhipalaaW.PrintWords
set_option linter.unusedVariables false
set_option linter.unusedSimpArgs false
set_option linter.unusedSectionVars false
section
variable {P : Program} {cx : Cx} {n : Nat} {Q : Exit → Act → World → Prop} {st : List Itm} {G : Env} {w : World} {ops : Array Oper}
structure Mt where
  S : Nat → Prop
  F0 : World → Prop
  F1 : World → Prop
  R : World → World → Prop
def MU (mu : Nat → Option Mt) (b : Nat) : Prop := ∃ j x, mu j = some x ∧ x.S b
def Ph (mu : Nat → Option Mt) (m : Nat) (M : List Nat) (i : Nat) (w : World) : Prop := ∀ j x, mu j = some x → j ≠ i → (Nat.testBit m j = true → x.F1 w) ∧ (Nat.testBit (M.getD j 0) i = true → x.F0 w)
def Ok3 (P : Program) (l : List Oper) (o : Oper) (G : Env) (w : World) (s : Spec) : Option Mt → Prop
  | none => StepOk P l o G w s
  | some x => x.F0 w → MutOk P l o G w s x.S (fun w' => x.F1 w' ∧ QT w w' ∧ x.R w w')
theorem kept_mu {w w' : World} {mu : Nat → Option Mt} {i : Nat} {x : Mt} (hx : mu i = some x) (h : Kept w w' x.S) : Kept w w' (MU mu) := ⟨h.1, fun q hq hn => h.2 q hq (fun hs => hn ⟨i, x, hx, hs⟩)⟩
def Tele3 (P : Program) (n : Nat) (l : List Oper) (w0 : World) (mu : Nat → Option Mt) (M : List Nat) (E : Env → Facts → Prop) : List Oper → List Spec → List Nat → Facts → Env → Prop
  | [], [], [], F, G => E G F
  | o :: os, s :: ss, m :: ms, F, G => (∀ d, o.dst = some d → Nat.blt d n = true) ∧ (∀ w, Kept w0 w (MU mu) → Ph mu m M F.length w → Have m F w → Ok3 P l o G w s (mu F.length)) ∧ ∀ v, s.pl v → Tele3 P n l w0 mu M E os ss ms (F ++ [(s, v)]) (ext o.dst v G)
  | _, _, _, _, _ => False
theorem tele3_at {l : List Oper} {w0 : World} {mu : Nat → Option Mt} {M : List Nat} {E : Env → Facts → Prop} : ∀ (os : List Oper) (ss : List Spec) (ms : List Nat) (F : Facts) (G : Env), Tele3 P n l w0 mu M E os ss ms F G → ∀ vs : Nat → Value, (∀ (j : Nat) (s : Spec), ss[j]? = some s → s.pl (vs (F.length + j))) →
    (∀ (j : Nat) (o : Oper), os[j]? = some o → ∃ s m, ss[j]? = some s ∧ ms[j]? = some m ∧ (∀ d, o.dst = some d → Nat.blt d n = true) ∧
      (∀ w, Kept w0 w (MU mu) → Ph mu m M (F.length + j) w → Have m (F ++ fz (ss.take j) vs F.length) w → Ok3 P l o (gz (os.take j) vs F.length G) w s (mu (F.length + j)))) ∧ E (gz os vs F.length G) (F ++ fz ss vs F.length)
  | [], [], [], F, G, h, vs, _ => ⟨fun j o hj => by simp at hj, by have h' : E G F := h; simpa [gz, fz] using h'⟩
  | o :: os, s :: ss, m :: ms, F, G, h, vs, hp => by
    obtain ⟨h2, h3, h4⟩ := h
    obtain ⟨h5, h6⟩ := tele3_at os ss ms _ _ (h4 (vs F.length) (by simpa using hp 0 s rfl)) vs (fun j s' hj => by
      have := hp (j + 1) s' (by simpa using hj)
      simp only [List.length_append, List.length_cons, List.length_nil]
      rw [show F.length + (0 + 1) + j = F.length + (j + 1) by omega]
      exact this)
    have hlen : (F ++ [(s, vs F.length)]).length = F.length + 1 := by simp
    rw [hlen] at h5 h6
    refine ⟨fun j o' hj => ?_, by simpa [gz, fz] using h6⟩
    cases j with
    | zero =>
      simp at hj
      subst hj
      exact ⟨s, m, rfl, rfl, h2, fun w hb h0 hh => by simpa [gz] using h3 w hb (by simpa using h0) (by simpa [fz] using hh)⟩
    | succ j =>
      obtain ⟨s', m', e1, e2, e4, e5⟩ := h5 j o' (by simpa using hj)
      refine ⟨s', m', by simpa using e1, by simpa using e2, e4, fun w hb h0 hh => ?_⟩
      have e9 : F.length + (j + 1) = F.length + 1 + j := by omega
      rw [e9] at h0 ⊢
      have := e5 w hb h0 (by simpa [fz] using hh)
      simpa [gz] using this
  | [], [], _ :: _, _, _, h, _, _ => h.elim
  | [], _ :: _, _, _, _, h, _, _ => h.elim
  | _ :: _, [], _, _, _, h, _, _ => h.elim
  | _ :: _, _ :: _, [], _, _, h, _, _ => h.elim
structure Inv3 (mu : Nat → Option Mt) (l : List Oper) (ss : List Spec) (cx : Cx) (n : Nat) (G : Env) (w0 : World) (vs : Nat → Value) (D : Array Bool) (a : Act) (w : World) : Prop where
  dsize : D.size = l.length
  closed : ∀ (j : Nat) (o : Oper), l[j]? = some o → D.getD j false = true → ∀ e ∈ o.after, Region.binds .any e = true → D.getD e.on false = true
  below : Kept w0 w (MU mu)
  phase : ∀ j x, mu j = some x → (D.getD j false = true → x.F1 w) ∧ (D.getD j false = false → x.F0 w)
  facts : ∀ k s, D.getD k false = true → ss[k]? = some s → s.s (vs k) w
  pls : ∀ (k : Nat) (s : Spec), ss[k]? = some s → s.pl (vs k)
  size : a.tmps.size = n
  defers : a.defers = cx.ds
  old : ∀ t v, (∀ (k : Nat) (o : Oper), l[k]? = some o → o.dst = some t → D.getD k false = false) → sLook G t = some v → a.tmps[t]? = some v
  new : ∀ (k : Nat) (o : Oper) d, l[k]? = some o → o.dst = some d → D.getD k false = true → a.tmps[d]? = some (vs k)
theorem Inv3.step {mu : Nat → Option Mt} {l : List Oper} {ss : List Spec} {M : List Nat} {w0 : World} {vs : Nat → Value} {D : Array Bool} {a : Act} {w w' : World} (hs : Static l M) (h : Inv3 mu l ss cx n G w0 vs D a w)
    {i : Nat} {o : Oper} (hi : l[i]? = some o) (hdn : ∀ d, o.dst = some d → Nat.blt d n = true) (hun : D.getD i false = false) (hpre : ∀ e ∈ o.after, Region.binds .any e = true → D.getD e.on false = true) {s : Spec} (hsi : ss[i]? = some s) {v : Value} (hv : s.s v w') (hb : Kept w w' (MU mu)) (hph : ∀ j x, mu j = some x → ((D.setIfInBounds i true).getD j false = true → x.F1 w') ∧ ((D.setIfInBounds i true).getD j false = false → x.F0 w')) (hst : ∀ (k : Nat) (s : Spec), k ≠ i → D.getD k false = true → ss[k]? = some s → s.s (vs k) w → s.s (vs k) w') :
    Inv3 mu l ss cx n G w0 (fun k => if k = i then v else vs k) (D.setIfInBounds i true) (a.put o.dst v) w' := by
  have hil : i < l.length := (List.getElem?_eq_some_iff.1 hi).1
  have hiD : i < D.size := by rw [h.dsize]; exact hil
  have hne : ∀ {k : Nat}, k ≠ i → (D.setIfInBounds i true).getD k false = D.getD k false := fun hk => by simp [Array.getElem?_setIfInBounds_ne (Ne.symm hk)]
  have hup : ∀ {k : Nat}, D.getD k false = true → (D.setIfInBounds i true).getD k false = true := fun {k} hk => by
    by_cases hki : k = i
    · subst hki; rw [hun] at hk; cases hk
    · rw [hne hki]; exact hk
  refine ⟨by simp [h.dsize], fun j oj hj hl e he hbd => ?_, kept_trans h.below hb, hph, fun k sk hl hk => ?_, fun k sk hk => ?_, ?_, ?_, fun t u hno hl => ?_, fun k ok d hk hd hl => ?_⟩
  · by_cases hji : j = i
    · subst hji
      have : oj = o := Option.some.inj (hj.symm.trans hi)
      subst this
      exact hup (hpre e he hbd)
    · rw [hne hji] at hl
      exact hup (h.closed j oj hj hl e he hbd)
  · by_cases hki : k = i
    · subst hki
      have : sk = s := Option.some.inj (hk.symm.trans hsi)
      subst this
      simpa using hv
    · rw [hne hki] at hl
      simpa [hki] using hst k sk hki hl hk (h.facts k sk hl hk)
  · by_cases hki : k = i
    · subst hki
      have : sk = s := Option.some.inj (hk.symm.trans hsi)
      subst this
      simpa using sk.imp _ _ hv
    · simpa [hki] using h.pls k sk hk
  · cases hd : o.dst <;> simp [Act.put, h.size]
  · cases hd : o.dst <;> simp [Act.put, h.defers]
  · have h1 : a.tmps[t]? = some u := h.old t u (fun k ok hk hd => by
      have := hno k ok hk hd
      by_cases hki : k = i
      · subst hki; exact hun
      · rwa [hne hki] at this) hl
    cases hd : o.dst with
    | none => simpa [Act.put] using h1
    | some d =>
      by_cases hdt : d = t
      · subst hdt
        have := hno i o hi hd
        rw [set_getD_same hiD] at this
        cases this
      · simp only [Act.put]
        rw [Array.getElem?_setIfInBounds_ne hdt]
        exact h1
  · by_cases hki : k = i
    · subst hki
      have : ok = o := Option.some.inj (hk.symm.trans hi)
      subst this
      have hlt : d < a.tmps.size := by rw [h.size]; simpa using hdn d hd
      simp [Act.put, hd, hlt]
    · rw [hne hki] at hl
      have h1 := h.new k ok d hk hd hl
      simp only [hki, if_false]
      cases hd' : o.dst with
      | none => simpa [Act.put] using h1
      | some d' =>
        have hdd : d' ≠ d := fun he => hki (hs.uniq i k o ok d hi hk (by rw [hd', he]) hd)
        simp only [Act.put]
        rw [Array.getElem?_setIfInBounds_ne hdd]
        exact h1
theorem wpAny_flow3 {mu : Nat → Option Mt} {l : List Oper} {ss : List Spec} {M : List Nat} {w0 : World} {k : Nat} (hs : Static l M) (hkl : k ≤ l.length) (htl : tailOk M k l.length = true)
    (ht : ∀ vs : Nat → Value, (∀ (k : Nat) (s : Spec), ss[k]? = some s → s.pl (vs k)) → (∀ (j : Nat) (o : Oper), j < k → l[j]? = some o → ∃ s m, ss[j]? = some s ∧ M[j]? = some m ∧ (∀ d, o.dst = some d → Nat.blt d n = true) ∧
      (∀ w, Kept w0 w (MU mu) → Ph mu m M j w → Have m (fz (ss.take j) vs 0) w → Ok3 P l o (gz (l.take j) vs 0 G) w s (mu j))) ∧ (∀ w, Kept w0 w (MU mu) → (∀ j x, mu j = some x → x.F1 w) → HaveAll (fz ss vs 0) w → ∀ a, Fits cx n (gz (l.take k) vs 0 G) a → wpList P l.toArray Q (l.drop k) a w)) (hsl : ss.length = k) (hqk : ∀ j x, mu j = some x → j < k)
    (hst : ∀ i x, mu i = some x → ∀ (k : Nat) (s : Spec), k ≠ i → Nat.testBit (M.getD k 0) i = false → ss[k]? = some s → ∀ v w w', Kept w w' x.S → x.R w w' → s.s v w → s.s v w') (hF : ∀ j x, mu j = some x → ∀ w w', Below w.heap.size w w' → (x.F0 w → x.F0 w') ∧ (x.F1 w → x.F1 w')) (hFF : ∀ i y, mu i = some y → ∀ j x, mu j = some x → j ≠ i → ∀ w w', Kept w w' y.S → QT w w' → (x.F0 w → x.F0 w') ∧ (x.F1 w → x.F1 w')) :
    ∀ (fuel : Nat) (D : Array Bool) (a : Act) (w : World) (vs : Nat → Value), cf D.toList ≤ fuel → Inv3 mu l ss cx n G w0 vs D a w → (∀ i, k ≤ i → i < l.length → D.getD i false = false) → wpAny P .any l.toArray Q fuel D a w := by
  have hfin : ∀ (D : Array Bool) (a : Act) (w : World) (vs : Nat → Value), Inv3 mu l ss cx n G w0 vs D a w → (∀ i, i < k → D.getD i false = true) → (∀ i, k ≤ i → i < l.length → D.getD i false = false) → wpList P l.toArray Q (l.drop k) a w := fun D a w vs h hall hno => by
    refine (ht vs h.pls).2 w h.below (fun j x hx => (h.phase j x hx).1 (hall j (hqk j x hx))) (fun k s v hk => ?_) a ⟨h.size, h.defers, fun t v hl => ?_⟩
    · rw [fz_get] at hk
      cases hsk : ss[k]? with
      | none => rw [hsk] at hk; simp at hk
      | some s' =>
        rw [hsk] at hk
        simp only [Option.map_some, Option.some.injEq, Prod.mk.injEq, Nat.zero_add] at hk
        obtain ⟨rfl, rfl⟩ := hk
        exact h.facts k s' (hall k (by have := (List.getElem?_eq_some_iff.1 hsk).1; omega)) hsk
    · rcases gz_look (l.take k) vs 0 G t v hl with ⟨j, o, h1, h2, h3⟩ | ⟨h1, h2⟩
      · rw [h3, Nat.zero_add]
        have hjk : j < k := by
          have := (List.getElem?_eq_some_iff.1 h1).1
          simp at this; omega
        rw [List.getElem?_take, if_pos hjk] at h1
        exact h.new j o t h1 h2 (hall j hjk)
      · refine h.old t v (fun q o hq hd => ?_) h2
        rcases Nat.lt_or_ge q k with hqk | hqk
        · exact absurd hd (h1 q o (by rw [List.getElem?_take, if_pos hqk]; exact hq))
        · exact hno q hqk (List.getElem?_eq_some_iff.1 hq).1
  have hdone : ∀ (fuel : Nat) (D : Array Bool) (a : Act) (w : World) (vs : Nat → Value), cf D.toList ≤ fuel → Inv3 mu l ss cx n G w0 vs D a w → (∀ i, i < k → D.getD i false = true) → (∀ i, k ≤ i → i < l.length → D.getD i false = false) → wpAny P .any l.toArray Q fuel D a w := fun fuel D a w vs hc h hall hno =>
    wpAny_tail hs htl (l.length - k) k rfl (Nat.le_refl _) hkl fuel D a w h.dsize (fun i hi => ⟨fun hd => (Nat.lt_or_ge i k).resolve_right (fun q => by rw [hno i q hi] at hd; exact Bool.noConfusion hd), fun q => hall i q⟩) hc (hfin D a w vs h hall hno)
  intro fuel
  induction fuel with
  | zero =>
    intro D a w vs hc h hno
    refine hdone 0 D a w vs hc h (fun i hi => ?_) hno
    have hiD : i < D.size := by rw [h.dsize]; omega
    have := cf_zero D.toList (by omega) i D[i] (by simp [hiD])
    simp [hiD, this]
  | succ fuel ih =>
    intro D a w vs hc h hno
    by_cases hall : ∀ i, i < k → D.getD i false = true
    · exact hdone _ D a w vs hc h hall hno
    obtain ⟨q, hq, hqn⟩ : ∃ q, q < k ∧ D.getD q false = false := by
      refine Classical.byContradiction fun hne => hall fun i hi => ?_
      cases hd : D.getD i false with
      | true => rfl
      | false => exact absurd ⟨i, hi, hd⟩ hne
    refine ⟨fun hr => (by have := all_listed hs h.dsize hr q (by omega); rw [hqn] at this; cases this), fun i hi => ?_⟩
    obtain ⟨h1, o, h2, hpre⟩ := mem_ready.1 hi
    have hun := getD_no h1
    have hoi : l[i]? = some o := by simpa using h2
    have hil : i < l.length := (List.getElem?_eq_some_iff.1 hoi).1
    have hik : i < k := by
      rcases Nat.lt_or_ge i k with hlt | hge
      · exact hlt
      · have := mask_listed hs h.closed i o q hoi hpre (tail_spec htl i hge hil q (by omega))
        rw [hqn] at this; cases this
    obtain ⟨s, m, hs1, hm1, hdn, hstep⟩ := (ht vs h.pls).1 i o hik hoi
    have hmi : M.getD i 0 = m := by simp [hm1]
    have hmask := mask_listed hs h.closed i o
    have hhave : Have m (fz (ss.take i) vs 0) w := (fun k s' v hk hb => by
      rw [fz_get] at hk
      cases hsk : (ss.take i)[k]? with
      | none => rw [hsk] at hk; simp at hk
      | some s'' =>
        rw [hsk] at hk
        simp only [Option.map_some, Option.some.injEq, Prod.mk.injEq, Nat.zero_add] at hk
        obtain ⟨rfl, rfl⟩ := hk
        refine h.facts k s'' (hmask k hoi hpre (by rw [hmi]; exact hb)) ?_
        rw [List.getElem?_take] at hsk
        split at hsk
        · exact hsk
        · simp at hsk)
    have heyes : ∀ t ∈ eyes l o, ∀ v, sLook (gz (l.take i) vs 0 G) t = some v → a.tmps[t]? = some v := fun t hte v hl => by
      rcases gz_look (l.take i) vs 0 G t v hl with ⟨j, o', g1, g2, g3⟩ | ⟨g1, g2⟩
      · have hji : j < i := by
          have := (List.getElem?_eq_some_iff.1 g1).1
          simp at this; omega
        have g1' : l[j]? = some o' := by
          rw [List.getElem?_take] at g1
          rw [if_pos hji] at g1
          exact g1
        rw [g3, Nat.zero_add]
        refine h.new j o' t g1' g2 ?_
        rcases hs.seen i j o o' t hoi g1' g2 hte with g | g
        · exact hmask j hoi hpre g
        · have := (hs.bits j o' i g1' g).1; omega
      · refine h.old t v (fun k ok hk hd => ?_) g2
        cases hDk : D.getD k false with
        | false => rfl
        | true =>
          exfalso
          rcases Nat.lt_trichotomy k i with g | g | g
          · refine g1 k ok ?_ hd
            rw [List.getElem?_take, if_pos g]; exact hk
          · subst g; rw [hun] at hDk; cases hDk
          · rcases hs.seen i k o ok t hoi hk hd hte with q | q
            · have := (hs.bits i o k hoi q).1; omega
            · have := mask_listed hs h.closed k ok i hk (h.closed k ok hk hDk) q
              rw [hun] at this; cases this
    have hcf : cf (D.setIfInBounds i true).toList ≤ fuel := by
      have hiD : i < D.size := by rw [h.dsize]; exact hil
      have := cf_set D.toList i (by simp [hiD] at hun ⊢; exact hun)
      rw [Array.toList_setIfInBounds]
      omega
    have hphB : ∀ w', mu i = none → Below w.heap.size w w' → ∀ j x, mu j = some x → ((D.setIfInBounds i true).getD j false = true → x.F1 w') ∧ ((D.setIfInBounds i true).getD j false = false → x.F0 w') := fun w' hne hb j x hx => by
      have hji : j ≠ i := fun e => by rw [e, hne] at hx; cases hx
      have e : (D.setIfInBounds i true).getD j false = D.getD j false := by simp [Array.getElem?_setIfInBounds_ne (Ne.symm hji)]
      rw [e]
      exact ⟨fun h1 => (hF j x hx _ _ hb).2 ((h.phase j x hx).1 h1), fun h1 => (hF j x hx _ _ hb).1 ((h.phase j x hx).2 h1)⟩
    have hgo : ∀ v w', s.s v w' → Kept w w' (MU mu) → (∀ j x, mu j = some x → ((D.setIfInBounds i true).getD j false = true → x.F1 w') ∧ ((D.setIfInBounds i true).getD j false = false → x.F0 w')) → (∀ (k : Nat) (s : Spec), k ≠ i → D.getD k false = true → ss[k]? = some s → s.s (vs k) w → s.s (vs k) w') → wpAny P .any l.toArray Q fuel (D.setIfInBounds i true) (a.put o.dst v) w' := fun v w' hv hb hph hca =>
      ih _ _ _ _ hcf (h.step hs hoi hdn hun hpre hs1 hv hb hph hca) (fun q hq hql => by
        have hqi : q ≠ i := by omega
        have : (D.setIfInBounds i true).getD q false = D.getD q false := by simp [Array.getElem?_setIfInBounds_ne (Ne.symm hqi)]
        rw [this]; exact hno q hq hql)
    have hPh : Ph mu m M i w := fun j x hx hji => ⟨fun hb => (h.phase j x hx).1 (hmask j hoi hpre (by rw [hmi]; exact hb)), fun hb => by
      cases hDq : D.getD j false with
      | false => exact (h.phase j x hx).2 hDq
      | true =>
        exfalso
        have hq0l : j < l.length := by have := hqk j x hx; omega
        have hoq : l[j]? = some l[j] := List.getElem?_eq_getElem hq0l
        have := mask_listed hs h.closed j l[j] i hoq (h.closed j _ hoq hDq) hb
        rw [hun] at this; cases this⟩
    have hok0 := hstep w h.below hPh hhave
    cases hmu : mu i with
    | some x =>
      have hph : ∀ w', Kept w w' x.S → x.F1 w' ∧ QT w w' ∧ x.R w w' → ∀ j y, mu j = some y → ((D.setIfInBounds i true).getD j false = true → y.F1 w') ∧ ((D.setIfInBounds i true).getD j false = false → y.F0 w') := fun w' hkk h1 j y hy => by
        by_cases hji : j = i
        · subst hji
          have e := set_getD_same (D := D) (i := j) (by rw [h.dsize]; exact hil)
          rw [e]
          have exy : y = x := Option.some.inj (hy.symm.trans hmu)
          subst exy
          exact ⟨fun _ => h1.1, fun h2 => by cases h2⟩
        · have e : (D.setIfInBounds i true).getD j false = D.getD j false := by simp [Array.getElem?_setIfInBounds_ne (Ne.symm hji)]
          rw [e]
          exact ⟨fun h2 => (hFF i x hmu j y hy hji _ _ hkk h1.2.1).2 ((h.phase j y hy).1 h2), fun h2 => (hFF i x hmu j y hy hji _ _ hkk h1.2.1).1 ((h.phase j y hy).2 h2)⟩
      have hcaM : ∀ w', Kept w w' x.S → x.R w w' → ∀ (k : Nat) (s : Spec), k ≠ i → D.getD k false = true → ss[k]? = some s → s.s (vs k) w → s.s (vs k) w' := fun w' hb hR k s hk hDk hsk h1 => hst i x hmu k s hk (by
        cases hb2 : Nat.testBit (M.getD k 0) i with
        | false => rfl
        | true =>
          exfalso
          have hkD : k < D.size := by
            rcases Nat.lt_or_ge k D.size with g | g
            · exact g
            · simp [Array.getElem?_eq_none g] at hDk
          have hkl2 : k < l.length := by rw [← h.dsize]; exact hkD
          have hok : l[k]? = some l[k] := List.getElem?_eq_getElem hkl2
          have := mask_listed hs h.closed k l[k] i hok (h.closed k _ hok hDk) hb2
          rw [hun] at this
          cases this) hsk _ _ _ hb hR h1
      rw [hmu] at hok0
      have hok : MutOk P l o (gz (l.take i) vs 0 G) w s x.S (fun w' => x.F1 w' ∧ QT w w' ∧ x.R w w') := hok0 ((h.phase i x hmu).2 hun)
      have hrun : known (gz (l.take i) vs 0 G) o = true ∧ GivesM P s x.S (fun w' => x.F1 w' ∧ QT w w' ∧ x.R w w') w ((execOp (sEv (gz (l.take i) vs 0 G)) o).run P w) → o.wp P a w (wpAny P .any l.toArray Q fuel (D.setIfInBounds i true)) Q := fun ⟨hk, hg⟩ => by
        unfold Oper.wp
        rw [exec_eyes heyes hk]
        generalize (execOp (sEv (gz (l.take i) vs 0 G)) o).run P w = r at hg ⊢
        cases r with
        | halt z w' => exact hg.elim
        | ok z w' =>
          cases z with
          | enter f args =>
            obtain ⟨rfl, hcall⟩ := hg
            refine hcall.mono fun e w'' he => ?_
            obtain ⟨v, rfl, hv, hb, h1⟩ := he
            exact hgo v w'' hv (kept_mu hmu hb) (hph w'' hb h1) (hcaM w'' hb h1.2.2)
          | skip => exact hgo undef w' hg.1 (kept_mu hmu hg.2.1) (hph w' hg.2.1 hg.2.2) (hcaM w' hg.2.1 hg.2.2.2.2)
          | value v => exact hgo v w' hg.1 (kept_mu hmu hg.2.1) (hph w' hg.2.1 hg.2.2) (hcaM w' hg.2.1 hg.2.2.2.2)
          | _ => exact hg.elim
      unfold wpOp
      rw [h2]
      simp only
      unfold MutOk at hok
      cases hgd : o.guard with
      | none =>
        rw [hgd] at hok
        rw [if_pos (wanted_none hgd _)]
        exact .inl (hrun hok)
      | some gb =>
        obtain ⟨g, b⟩ := gb
        rw [hgd] at hok
        obtain ⟨t, q1, q2, q3⟩ := hok
        have hte : t ∈ eyes l o := by
          refine List.mem_append_right _ ?_
          rw [hgd]
          simp [q1]
        have hw : Region.wanted o (yielded l.toArray a.tmps) = true := by
          have q1' : ((l.toArray)[g]?).bind (·.dst) = some t := by simpa using q1
          have q5 : yielded l.toArray a.tmps g = some b := by
            unfold yielded
            rw [q1']
            simp [heyes t hte _ q2]
          unfold Region.wanted
          rw [hgd]
          simp only [q5]
          cases b <;> rfl
        rw [if_pos hw]
        exact .inl (hrun q3)
    | none =>
      have hiq := hmu
      have hcaB : ∀ w', Below w.heap.size w w' → ∀ (k : Nat) (s : Spec), k ≠ i → D.getD k false = true → ss[k]? = some s → s.s (vs k) w → s.s (vs k) w' := fun w' hb k s _ _ _ h1 => s.stab _ _ _ hb h1
      rw [hmu] at hok0
      have hok : StepOk P l o (gz (l.take i) vs 0 G) w s := hok0
      have hrun : known (gz (l.take i) vs 0 G) o = true ∧ Gives P s w ((execOp (sEv (gz (l.take i) vs 0 G)) o).run P w) → o.wp P a w (wpAny P .any l.toArray Q fuel (D.setIfInBounds i true)) Q := fun ⟨hk, hg⟩ => by
        unfold Oper.wp
        rw [exec_eyes heyes hk]
        generalize (execOp (sEv (gz (l.take i) vs 0 G)) o).run P w = r at hg ⊢
        cases r with
        | halt x w' => exact hg.elim
        | ok x w' =>
          cases x with
          | value v => exact hgo v w' hg.1 (below_kept hg.2) (hphB w' hiq hg.2) (hcaB w' hg.2)
          | skip => exact hgo undef w' hg.1 (below_kept hg.2) (hphB w' hiq hg.2) (hcaB w' hg.2)
          | enter f args =>
            obtain ⟨rfl, hcall⟩ := hg
            refine hcall.mono fun e w'' he => ?_
            obtain ⟨v, rfl, hv, hb⟩ := he
            exact hgo v w'' hv (below_kept hb) (hphB w'' hiq hb) (hcaB w'' hb)
          | _ => exact hg.elim
      unfold wpOp
      rw [h2]
      simp only
      unfold StepOk at hok
      cases hgd : o.guard with
      | none =>
        rw [hgd] at hok
        rw [if_pos (wanted_none hgd _)]
        exact .inl (hrun hok)
      | some gb =>
        obtain ⟨g, b⟩ := gb
        rw [hgd] at hok
        rcases hok with ⟨t, c, q1, q2, q3, q4⟩ | ⟨t, q1, q2, q4⟩
        rotate_left
        · have hte : t ∈ eyes l o := by
            refine List.mem_append_right _ ?_
            rw [hgd]
            simp [q1]
          have hw : Region.wanted o (yielded l.toArray a.tmps) = false := by
            have q1' : ((l.toArray)[g]?).bind (·.dst) = some t := by simpa using q1
            have q5 : yielded l.toArray a.tmps g = none := by
              unfold yielded
              rw [q1']
              simp [heyes t hte _ q2, undef]
            unfold Region.wanted
            rw [hgd]
            simp only [q5]
            rfl
          rw [if_neg (by rw [hw]; simp)]
          exact hgo undef w q4 (kept_refl _ _) (hphB w hiq (Below.refl _ _)) (hcaB w (Below.refl _ _))
        have hte : t ∈ eyes l o := by
          refine List.mem_append_right _ ?_
          rw [hgd]
          simp [q1]
        have hw : Region.wanted o (yielded l.toArray a.tmps) = (c == b) := by
          have q1' : ((l.toArray)[g]?).bind (·.dst) = some t := by simpa using q1
          have q5 : yielded l.toArray a.tmps g = some c := by
            unfold yielded
            rw [q1']
            simp [heyes t hte _ q2]
          unfold Region.wanted
          rw [hgd]
          simp only [q5]
          cases c <;> cases b <;> rfl
        by_cases hc : c = b
        · rw [if_pos (by rw [hw]; simp [hc])]
          exact .inl (hrun (q3 hc))
        · rw [if_neg (by rw [hw]; simp [hc])]
          exact hgo undef w (q4 hc) (kept_refl _ _) (hphB w hiq (Below.refl _ _)) (hcaB w (Below.refl _ _))
theorem w_drawo {id : Nat} {l : List Oper} {M : List Nat} {ss : List Spec} (mu : Nat → Option Mt) (k : Nat) (hm : P.follows .mixedOrders = true) (hok : (listOk l M && Nat.beq M.length l.length && tailOk M k l.length && Nat.ble k l.length) = true) (hqk : ∀ j x, mu j = some x → j < k) (hst : ∀ i x, mu i = some x → ∀ (k : Nat) (s : Spec), k ≠ i → Nat.testBit (M.getD k 0) i = false → ss[k]? = some s → ∀ v w w', Kept w w' x.S → x.R w w' → s.s v w → s.s v w') (hF : ∀ j x, mu j = some x → ∀ w w', Below w.heap.size w w' → (x.F0 w → x.F0 w') ∧ (x.F1 w → x.F1 w')) (hFF : ∀ i y, mu i = some y → ∀ j x, mu j = some x → j ≠ i → ∀ w w', Kept w w' y.S → QT w w' → (x.F0 w → x.F0 w') ∧ (x.F1 w → x.F1 w')) (h0 : ∀ j x, mu j = some x → x.F0 w.drew)
    (h : Tele3 P n l w.drew mu M (fun G' F => ∀ w', Kept w.drew w' (MU mu) → (∀ j x, mu j = some x → x.F1 w') → HaveAll F w' → RW P l.toArray cx n (Ks cx P st Q) (l.drop k) G' w') (l.take k) ss (M.take k) [] G) : W P cx n Q (Itm.code (.region id l.toArray true) :: st) G w := fun a ha => by
  simp only [Bool.and_eq_true] at hok
  obtain ⟨⟨⟨hok1, hM0⟩, htl⟩, hkl0⟩ := hok
  have hM := Nat.eq_of_beq_eq_true hM0
  have hkl := Nat.le_of_ble_eq_true hkl0
  have ht := fun vs hp => tele3_at (P := P) (l.take k) ss (M.take k) [] G h vs hp
  have hsl : ss.length = k := by
    have aux : ∀ (os : List Oper) (ss : List Spec) (ms : List Nat) (F : Facts) (G : Env) (E : Env → Facts → Prop), Tele3 P n l w.drew mu M E os ss ms F G → ss.length = os.length := by
      intro os
      induction os with
      | nil => intro ss ms F G E h; cases ss with
        | nil => rfl
        | cons => cases ms <;> exact h.elim
      | cons o os ih => intro ss ms F G E h; cases ss with
        | nil => cases ms <;> exact h.elim
        | cons s ss => cases ms with
          | nil => exact h.elim
          | cons m ms => obtain ⟨v, hv⟩ := s.inh; simp only [List.length_cons]; rw [ih ss ms _ _ E (h.2.2 v hv)]
    rw [aux _ _ _ _ _ _ h, List.length_take]; omega
  refine drawn_in hm (fun i o hi => listOk_sel hok1 i o (by simpa using hi)) (wpAny_flow3 (cx := cx) (mu := mu) (n := n) (G := G) (Q := Ks cx P st Q) (ss := ss) (w0 := w.drew) (k := k) (static_of hok1) hkl htl (fun vs hp => ?_) hsl hqk hst hF hFF _ _ a _ (fun j => match ss[j]? with | some s => Classical.choose s.inh | none => undef) ?_ ?_ ?_)
  · obtain ⟨h1, h2⟩ := ht vs (fun j s hj => by simpa using hp j s hj)
    refine ⟨fun j o hjk hj => ?_, fun w' hb hf hh a' ha' => ?_⟩
    · obtain ⟨s, m, e1, e2, e4, e5⟩ := h1 j o (by rw [List.getElem?_take, if_pos hjk]; exact hj)
      have e2' : M[j]? = some m := by rw [List.getElem?_take, if_pos hjk] at e2; exact e2
      have htt : (l.take k).take j = l.take j := by rw [List.take_take]; congr 1; omega
      exact ⟨s, m, e1, e2', e4, fun w' hb h0 hh => by have := e5 w' hb (by simpa using h0) (by simpa using hh); rw [htt] at this; simpa using this⟩
    · exact (h2 w' hb hf (by simpa using hh)) a' (by simpa using ha')
  · have : ∀ k, cf (List.replicate k false) = k := by
      intro k; induction k with
      | zero => rfl
      | succ k ih => simp only [List.replicate_succ, cf, ih]; simp; omega
    simp [this]
  · refine ⟨by simp, fun j o hj hl => ?_, kept_refl _ _, fun j x hx => ⟨fun h1 => by (simp [Array.getElem?_replicate] at h1; split at h1 <;> simp at h1), fun _ => h0 j x hx⟩, fun k s hl => ?_, fun k s hk => ?_, ha.size, ha.defers, fun t v _ hl => ha.at_ t v hl, fun k o d hk hd hl => ?_⟩
    · simp [Array.getElem?_replicate] at hl; split at hl <;> simp at hl
    · simp [Array.getElem?_replicate] at hl; split at hl <;> simp at hl
    · simp only [hk]
      exact Classical.choose_spec s.inh
    · simp [Array.getElem?_replicate] at hl; split at hl <;> simp at hl
  · intro i _ hi
    simp [Array.getElem?_replicate, hi]
variable {l : List Oper} {w0 : World} {mu : Nat → Option Mt} {M : List Nat} {E : Env → Facts → Prop} {os : List Oper} {ss : List Spec} {ms : List Nat} {m : Nat} {F : Facts} {o : Oper}
theorem v_is (hnq : mu F.length = none) {d : Nat} (c : Value) (hg : o.guard = none) (hd : o.dst = some d) (hdn : Nat.blt d n = true) (hk : known G o = true)
    (hrun : ∀ w, Kept w0 w (MU mu) → Ph mu m M F.length w → Have m F w → (execOp (sEv G) o).run P w = .ok (.value c) w)
    (k : Tele3 P n l w0 mu M E os ss ms (F ++ [(Is c, c)]) ((d, c) :: G)) : Tele3 P n l w0 mu M E (o :: os) (Is c :: ss) (m :: ms) F G := by
  refine ⟨fun d' h => by rw [hd] at h; cases h; exact hdn, fun w hb h1_ hh => ?_, fun v hv => ?_⟩
  · rw [hnq]
    show StepOk _ _ _ _ _ _
    unfold StepOk
    rw [hg]
    refine ⟨hk, ?_⟩
    rw [hrun w hb h1_ hh]
    exact ⟨rfl, Below.refl _ _⟩
  · have : v = c := hv
    subst this
    rw [hd]
    exact k
theorem v_val (hnq : mu F.length = none) {d : Nat} (s : Spec) (hg : o.guard = none) (hd : o.dst = some d) (hdn : Nat.blt d n = true) (hk : known G o = true)
    (hrun : ∀ w, Kept w0 w (MU mu) → Ph mu m M F.length w → Have m F w → ∃ v w', (execOp (sEv G) o).run P w = .ok (.value v) w' ∧ s.s v w' ∧ Below w.heap.size w w')
    (k : ∀ v, s.pl v → Tele3 P n l w0 mu M E os ss ms (F ++ [(s, v)]) ((d, v) :: G)) : Tele3 P n l w0 mu M E (o :: os) (s :: ss) (m :: ms) F G := by
  refine ⟨fun d' h => by rw [hd] at h; cases h; exact hdn, fun w hb h1_ hh => ?_, fun v hv => ?_⟩
  · rw [hnq]
    show StepOk _ _ _ _ _ _
    unfold StepOk
    rw [hg]
    refine ⟨hk, ?_⟩
    obtain ⟨v, w', h1, h2, h3⟩ := hrun w hb h1_ hh
    rw [h1]
    exact ⟨h2, h3⟩
  · rw [hd]
    exact k v hv
theorem v_mut {x : Mt} (hq : mu F.length = some x) {d : Nat} (s : Spec) {f : FuncId} {args : Array Value} (hg : o.guard = none) (hd : o.dst = some d) (hdn : Nat.blt d n = true) (hk : known G o = true)
    (hrun : ∀ w, (execOp (sEv G) o).run P w = .ok (.enter f args) w)
    (hc : ∀ w, Kept w0 w (MU mu) → x.F0 w → Have m F w → Calls P f args w fun e w' => ∃ v, e = .returned v ∧ s.s v w' ∧ Kept w w' x.S ∧ x.F1 w' ∧ QT w w' ∧ x.R w w')
    (k : ∀ v, s.pl v → Tele3 P n l w0 mu M E os ss ms (F ++ [(s, v)]) ((d, v) :: G)) : Tele3 P n l w0 mu M E (o :: os) (s :: ss) (m :: ms) F G := by
  refine ⟨fun d' h => by rw [hd] at h; cases h; exact hdn, fun w hb _ hh => ?_, fun v hv => ?_⟩
  · rw [hq]
    intro h0
    unfold MutOk
    rw [hg]
    refine ⟨hk, ?_⟩
    rw [hrun w]
    exact ⟨rfl, hc w hb h0 hh⟩
  · rw [hd]
    exact k v hv
theorem v_app {x : Mt} (hq : mu F.length = some x) {d : Nat} (s : Spec) (hg : o.guard = none) (hd : o.dst = some d) (hdn : Nat.blt d n = true) (hk : known G o = true)
    (hrun : ∀ w, Kept w0 w (MU mu) → x.F0 w → Have m F w → ∃ v w', (execOp (sEv G) o).run P w = .ok (.value v) w' ∧ s.s v w' ∧ Kept w w' x.S ∧ x.F1 w' ∧ QT w w' ∧ x.R w w')
    (k : ∀ v, s.pl v → Tele3 P n l w0 mu M E os ss ms (F ++ [(s, v)]) ((d, v) :: G)) : Tele3 P n l w0 mu M E (o :: os) (s :: ss) (m :: ms) F G := by
  refine ⟨fun d' h => by rw [hd] at h; cases h; exact hdn, fun w hb _ hh => ?_, fun v hv => ?_⟩
  · rw [hq]
    intro h0
    unfold MutOk
    rw [hg]
    refine ⟨hk, ?_⟩
    obtain ⟨v, w', h1, h2, h3, h4⟩ := hrun w hb h0 hh
    rw [h1]
    exact ⟨h2, h3, h4⟩
  · rw [hd]
    exact k v hv
theorem v_tail {rest : List Oper} {ops : Array Oper} {Q' : Exit → Act → World → Prop} (h : ∀ w', Kept w0 w' (MU mu) → (∀ j x, mu j = some x → x.F1 w') → HaveAll F w' → RW P ops cx n Q' rest G w') : Tele3 P n l w0 mu M (fun G' F => ∀ w', Kept w0 w' (MU mu) → (∀ j x, mu j = some x → x.F1 w') → HaveAll F w' → RW P ops cx n Q' rest G' w') [] [] [] F G := h
def two (p q : Nat) (x y : Mt) (i : Nat) : Option Mt := cond (Nat.beq i p) (some x) (cond (Nat.beq i q) (some y) none)
theorem two_cases {p q : Nat} {x y : Mt} {P : Nat → Mt → Prop} (hp : P p x) (hq : P q y) : ∀ j z, two p q x y j = some z → P j z := fun j z h => by
  unfold two at h
  cases e1 : Nat.beq j p with
  | true => rw [e1] at h; cases h; rw [Nat.eq_of_beq_eq_true e1]; exact hp
  | false =>
    rw [e1] at h
    cases e2 : Nat.beq j q with
    | true => rw [e2] at h; cases h; rw [Nat.eq_of_beq_eq_true e2]; exact hq
    | false => rw [e2] at h; cases h
theorem mu_two {p q : Nat} {x y : Mt} {b : Nat} (h : MU (two p q x y) b) : x.S b ∨ y.S b := by
  obtain ⟨j, z, h1, h2⟩ := h
  revert h2
  exact two_cases (P := fun _ z => z.S b → x.S b ∨ y.S b) .inl .inr j z h1
theorem two_ff {p q : Nat} {x y : Mt} (h1 : ∀ w w', Kept w w' x.S → QT w w' → (y.F0 w → y.F0 w') ∧ (y.F1 w → y.F1 w')) (h2 : ∀ w w', Kept w w' y.S → QT w w' → (x.F0 w → x.F0 w') ∧ (x.F1 w → x.F1 w')) : ∀ i b, two p q x y i = some b → ∀ j a, two p q x y j = some a → j ≠ i → ∀ w w', Kept w w' b.S → QT w w' → (a.F0 w → a.F0 w') ∧ (a.F1 w → a.F1 w') :=
  two_cases (P := fun i b => ∀ j a, two p q x y j = some a → j ≠ i → ∀ w w', Kept w w' b.S → QT w w' → (a.F0 w → a.F0 w') ∧ (a.F1 w → a.F1 w'))
    (two_cases (P := fun j a => j ≠ p → ∀ w w', Kept w w' x.S → QT w w' → (a.F0 w → a.F0 w') ∧ (a.F1 w → a.F1 w')) (fun h => absurd rfl h) (fun _ => h1))
    (two_cases (P := fun j a => j ≠ q → ∀ w w', Kept w w' y.S → QT w w' → (a.F0 w → a.F0 w') ∧ (a.F1 w → a.F1 w')) (fun _ => h2) (fun h => absurd rfl h))
theorem two_st {M : List Nat} {p q : Nat} {x y : Mt} {ss : List Spec} (h1 : ∀ (k : Nat) (s : Spec), k ≠ p → Nat.testBit (M.getD k 0) p = false → ss[k]? = some s → ∀ v w w', Kept w w' x.S → x.R w w' → s.s v w → s.s v w') (h2 : ∀ (k : Nat) (s : Spec), k ≠ q → Nat.testBit (M.getD k 0) q = false → ss[k]? = some s → ∀ v w w', Kept w w' y.S → y.R w w' → s.s v w → s.s v w') :
    ∀ i z, two p q x y i = some z → ∀ (k : Nat) (s : Spec), k ≠ i → Nat.testBit (M.getD k 0) i = false → ss[k]? = some s → ∀ v w w', Kept w w' z.S → z.R w w' → s.s v w → s.s v w' :=
  two_cases (P := fun i z => ∀ (k : Nat) (s : Spec), k ≠ i → Nat.testBit (M.getD k 0) i = false → ss[k]? = some s → ∀ v w w', Kept w w' z.S → z.R w w' → s.s v w → s.s v w') h1 h2
end
end Go.Proofs.Ytbbhdohjhipalaa.Flow.R
end
