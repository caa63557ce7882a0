/- Sums of bytes in parts: the walk. -/
import Derived.Test.YtjndoihnpnmbjaaFrAlive
namespace Go.Proofs.Ytjndoihnpnmbjaa.PFrameSums
open Go.RowKit Go.Proofs.YtjndoihnpnmbjaaW.PrintWords Go.Proofs.YtjndoihnpnmbjaaW.PrintLast Go.Proofs.YtjndoihnpnmbjaaW.PrintMore
open Go.Proofs.Ytjndoihnpnmbjaa.Flow
set_option linter.unusedVariables false
set_option linter.unusedSimpArgs false

set_option maxHeartbeats 4000000 in
theorem walkSums (w : World) (X0 : Option Addr) (d0 : Nat) (l0 : List Int) (h0 : (Kd.int .u8).C w X0 l0.length l0) (e0 : l0.length ≤ d0) (X1 : Option Addr) (d1 : Nat) (l1 : List Int) (h1 : (Kd.int .u8).C w X1 l1.length l1) (e1 : l1.length ≤ d1) (X2 : Option Addr) (d2 : Nat) (l2 : List Int) (h2 : (Kd.int .u8).C w X2 l2.length l2) (e2 : l2.length ≤ d2) :
    Calls Try.prog 4 #[.slice X0 l0.length d0, .slice X1 l1.length d1, .slice X2 l2.length d2] w fun e w' => e = .returned (.bool true) ∧ Below w.heap.size w w' := by
  refine calls_flow Try.func4 rfl 63 rfl (Nat.le_of_ble_eq_true rfl) [(0, .slice X0 l0.length d0), (1, .slice X1 l1.length d1), (2, .slice X2 l2.length d2)] ?_ ?_
  · intro t v h; exact args_look rfl t v h
  refine w_seq ?_
  refine w_region ?_
  refine rw_val (v := .bool false) (w' := w) rfl rfl rfl rfl rfl ?_
  refine rw_end ?_
  refine w_seq ?_
  refine w_seq ?_
  refine w_region ?_
  refine rw_call rfl rfl rfl rfl (f := 11) (args := #[]) (by simp [go_sem, sEv, sLook, nbeq, i64_w, -List.length_flatten]) (alive_calls w) ?_
  rintro e_ w1 ⟨rfl, hb2⟩
  refine ⟨_, rfl, ?_⟩
  have hs_w1 := hb2.size
  refine rw_val (v := .bool false) (w' := w1) rfl rfl rfl rfl (by simp [go_sem, sEv, sLook, nbeq, i64_w, -List.length_flatten]) ?_
  refine rw_end ?_
  refine w_cond_f rfl rfl rfl ?_
  refine w_skip ?_
  refine w_seq ?_
  refine w_seq ?_
  refine w_region ?_
  refine rw_val (v := .slice X0 l0.length d0) (w' := w1) rfl rfl rfl rfl rfl ?_
  refine rw_val (v := .slice X1 l1.length d1) (w' := w1) rfl rfl rfl rfl rfl ?_
  refine rw_val (v := .slice X2 l2.length d2) (w' := w1) rfl rfl rfl rfl rfl ?_
  refine rw_new (cs := #[.slice X0 l0.length d0, .slice X1 l1.length d1, .slice X2 l2.length d2]) (t := 22) (fun g => .slice (some ⟨g, 0, none⟩) 3 3) rfl rfl rfl rfl (by kernel_rfl) ?_
  intro g3 w4 hg8 hz7 hb5 hk6
  have hs_w4 := hb5.size
  have hP9 : (Kd.slice 5 (Kd.int .u8)).C w4 (some ⟨g3, 0, none⟩) [l0, l1, l2].length [l0, l1, l2] := rows3 hk6 e0 (Kd.C_below h0 (chain hb2 hb5)) e1 (Kd.C_below h1 (chain hb2 hb5)) e2 (Kd.C_below h2 (chain hb2 hb5))
  refine rw_call rfl rfl rfl rfl (f := 12) (args := #[.slice (some ⟨g3, 0, none⟩) 3 3]) (by simp [go_sem, sEv, sLook, nbeq, i64_w, -List.length_flatten]) (estuarylaw04_large.calls 10 _ 3 [l0, l1, l2] _ w4 (Kd.C_below hP9 (Below.refl _ _)) (by simp) (large_f _ (by simp) _ (by simp))) ?_
  rintro e_ w10 ⟨rfl, hb11_⟩
  refine ⟨_, rfl, ?_⟩
  have hb11 := hb11_.below
  have hs_w10 := hb11.size
  refine rw_end ?_
  refine w_weaken (G' := [(0, .slice X0 l0.length d0), (1, .slice X1 l1.length d1), (2, .slice X2 l2.length d2), (6, .bool false), (18, .bool (lg [l0, l1, l2]))]) ⟨rfl, rfl, rfl, rfl, rfl, trivial⟩ ?_
  refine w_cond rfl rfl (fun cG => ?_) (fun cG => ?_)
  · refine w_seq ?_
    refine w_region ?_
    refine rw_val (v := .bool true) (w' := w10) rfl rfl rfl rfl rfl ?_
    refine rw_end ?_
    refine w_ret (post_ret1 rfl rfl ?_)
    exact ⟨rfl, (chain (chain hb2 hb5) hb11)⟩
  · refine w_skip ?_
    refine w_seq ?_
    refine w_region ?_
    obtain ⟨hlg1_, hlg2_, _⟩ := lg_no cG
    have q0_ := hlg1_ l0 (by simp)
    have q1_ := hlg1_ l1 (by simp)
    have q2_ := hlg1_ l2 (by simp)
    refine rw_new (cs := #[]) (t := 5) (fun g => .slice (some ⟨g, 0, none⟩) 0 0) rfl rfl rfl rfl (by kernel_rfl) ?_
    intro g12 w13 hg17 hz16 hb14 hk15
    have hs_w13 := hb14.size
    have hO18 : Own .u8 5 w13 w.heap.size g12 (some ⟨g12, 0, none⟩) 0 0 [] := own_blk w.heap.size hk15 (by omega) rfl (by simp) (by omega) (Nums.nil _ _)
    refine rw_val (v := .slice X0 l0.length d0) (w' := w13) rfl rfl rfl rfl rfl ?_
    refine rw_append_row .u8 w.heap.size rfl rfl rfl (.tmp 19) (.tmp 20) rfl rfl 22 5 1 rfl (by kernel_rfl) info5 (by decide) (b := g12) rfl rfl (by omega) (hO18.on (Below.refl _ _)) (Kd.C_below h0 (chain (chain (chain hb2 hb5) hb11) hb14)) (chain (chain (chain hb2 hb5) hb11) hb14) (by omega) (by simp only [List.length_append, List.length_nil]; omega) ?_
    intro A19 n20 c21 w22 hn23 hO24 hB25 hG26
    subst hn23
    have hs_w22 := hB25.size
    have hgs_w22 := hG26.size
    refine rw_val (v := .slice X1 l1.length d1) (w' := w22) rfl rfl rfl rfl rfl ?_
    refine rw_append_row .u8 w.heap.size rfl rfl rfl (.tmp 21) (.tmp 22) rfl rfl 22 5 1 rfl (by kernel_rfl) info5 (by decide) (b := g12) rfl rfl (by omega) (hO24.on (Below.refl _ _)) (Kd.C_below h1 hB25) hB25 (by omega) (by simp only [List.length_append, List.length_nil]; omega) ?_
    intro A27 n28 c29 w30 hn31 hO32 hB33 hG34
    subst hn31
    have hs_w30 := hB33.size
    have hgs_w30 := hG34.size
    refine rw_val (v := .slice X2 l2.length d2) (w' := w30) rfl rfl rfl rfl rfl ?_
    refine rw_append_row .u8 w.heap.size rfl rfl rfl (.tmp 23) (.tmp 24) rfl rfl 22 5 1 rfl (by kernel_rfl) info5 (by decide) (b := g12) rfl rfl (by omega) (hO32.on (Below.refl _ _)) (Kd.C_below h2 hB33) hB33 (by omega) (by simp only [List.length_append, List.length_nil]; omega) ?_
    intro A35 n36 c37 w38 hn39 hO40 hB41 hG42
    subst hn39
    have hs_w38 := hB41.size
    have hgs_w38 := hG42.size
    refine rw_val (v := .slice A35 (((([] ++ l0) ++ l1) ++ l2).length) c37) (w' := w38) rfl rfl rfl rfl rfl ?_
    refine rw_end ?_
    refine w_weaken (G' := [(0, .slice X0 l0.length d0), (1, .slice X1 l1.length d1), (2, .slice X2 l2.length d2), (6, .bool false), (7, .slice A35 (((([] ++ l0) ++ l1) ++ l2).length) c37)]) ⟨rfl, rfl, rfl, rfl, rfl, trivial⟩ ?_
    refine w_seq ?_
    refine w_region ?_
    refine rw_val (v := .slice X0 l0.length d0) (w' := w38) rfl rfl rfl rfl rfl ?_
    refine rw_val (v := .slice X1 l1.length d1) (w' := w38) rfl rfl rfl rfl rfl ?_
    refine rw_val (v := .slice X2 l2.length d2) (w' := w38) rfl rfl rfl rfl rfl ?_
    refine rw_new (cs := #[.slice X0 l0.length d0, .slice X1 l1.length d1, .slice X2 l2.length d2]) (t := 22) (fun g => .slice (some ⟨g, 0, none⟩) 3 3) rfl rfl rfl rfl (by kernel_rfl) ?_
    intro g43 w44 hg48 hz47 hb45 hk46
    have hs_w44 := hb45.size
    have hP49 : (Kd.slice 5 (Kd.int .u8)).C w44 (some ⟨g43, 0, none⟩) [l0, l1, l2].length [l0, l1, l2] := rows3 hk46 e0 (Kd.C_below h0 (chain hB41 hb45)) e1 (Kd.C_below h1 (chain hB41 hb45)) e2 (Kd.C_below h2 (chain hB41 hb45))
    refine rw_call rfl rfl rfl rfl (f := 19) (args := #[.slice (some ⟨g43, 0, none⟩) 3 3]) (by simp [go_sem, sEv, sLook, nbeq, i64_w, -List.length_flatten]) (wrap_calls w44 _ 3 [l0, l1, l2] (Kd.C_below hP49 (Below.refl _ _)) (by simp) (by simp) (by simp only [List.length_append, List.length_nil, List.mem_cons, List.not_mem_nil, or_false, forall_eq_or_imp, forall_eq]; omega)) ?_
    rintro e_ w53 ⟨A50, n51, c52, rfl, hO54, hB55⟩
    refine ⟨_, rfl, ?_⟩
    have hs_w53 := hB55.size
    have hL56 : Own .u8 5 w53 w.heap.size w44.heap.size A50 n51 c52 (frameB ([l0, l1, l2]).flatten) := Own.lower hO54 (by omega)
    refine rw_val (v := .tuple #[.slice A50 n51 c52, errW (frameE ([l0, l1, l2]).flatten)]) (w' := w53) rfl rfl rfl rfl rfl ?_
    refine rw_val (v := .slice A50 n51 c52) (w' := w53) rfl rfl rfl rfl (by simp [go_sem, sEv, sLook, nbeq, i64_w, -List.length_flatten]) ?_
    refine rw_val (v := errW (frameE ([l0, l1, l2]).flatten)) (w' := w53) rfl rfl rfl rfl (by simp [go_sem, sEv, sLook, nbeq, i64_w, -List.length_flatten]) ?_
    refine rw_val (v := .slice A50 n51 c52) (w' := w53) rfl rfl rfl rfl rfl ?_
    refine rw_val (v := errW (frameE ([l0, l1, l2]).flatten)) (w' := w53) rfl rfl rfl rfl rfl ?_
    refine rw_end ?_
    refine w_weaken (G' := [(0, .slice X0 l0.length d0), (1, .slice X1 l1.length d1), (2, .slice X2 l2.length d2), (6, .bool false), (7, .slice A35 (((([] ++ l0) ++ l1) ++ l2).length) c37), (8, .slice A50 n51 c52), (9, errW (frameE ([l0, l1, l2]).flatten))]) ⟨rfl, rfl, rfl, rfl, rfl, rfl, rfl, trivial⟩ ?_
    refine w_seq ?_
    refine w_region ?_
    refine rw_val (v := .slice A35 (((([] ++ l0) ++ l1) ++ l2).length) c37) (w' := w53) rfl rfl rfl rfl rfl ?_
    refine rw_new (cs := #[.slice A35 (((([] ++ l0) ++ l1) ++ l2).length) c37]) (t := 22) (fun g => .slice (some ⟨g, 0, none⟩) 1 1) rfl rfl rfl rfl (by kernel_rfl) ?_
    intro g57 w58 hg62 hz61 hb59 hk60
    have hs_w58 := hb59.size
    have hP63 : (Kd.slice 5 (Kd.int .u8)).C w58 (some ⟨g57, 0, none⟩) [((([] ++ l0) ++ l1) ++ l2)].length [((([] ++ l0) ++ l1) ++ l2)] := rows1 hk60 (hO40.cap) (Own.C (hO40.on (chain (chain hb45 hB55) hb59)))
    refine rw_call rfl rfl rfl rfl (f := 19) (args := #[.slice (some ⟨g57, 0, none⟩) 1 1]) (by simp [go_sem, sEv, sLook, nbeq, i64_w, -List.length_flatten]) (wrap_calls w58 _ 1 [((([] ++ l0) ++ l1) ++ l2)] (Kd.C_below hP63 (Below.refl _ _)) (by simp) (by simp) (by simp only [List.length_append, List.length_nil, List.mem_cons, List.not_mem_nil, or_false, forall_eq_or_imp, forall_eq]; omega)) ?_
    rintro e_ w67 ⟨A64, n65, c66, rfl, hO68, hB69⟩
    refine ⟨_, rfl, ?_⟩
    have hs_w67 := hB69.size
    have hL70 : Own .u8 5 w67 w.heap.size w58.heap.size A64 n65 c66 (frameB ([((([] ++ l0) ++ l1) ++ l2)]).flatten) := Own.lower hO68 (by omega)
    refine rw_val (v := .tuple #[.slice A64 n65 c66, errW (frameE ([((([] ++ l0) ++ l1) ++ l2)]).flatten)]) (w' := w67) rfl rfl rfl rfl rfl ?_
    refine rw_val (v := .slice A64 n65 c66) (w' := w67) rfl rfl rfl rfl (by simp [go_sem, sEv, sLook, nbeq, i64_w, -List.length_flatten]) ?_
    refine rw_val (v := errW (frameE ([((([] ++ l0) ++ l1) ++ l2)]).flatten)) (w' := w67) rfl rfl rfl rfl (by simp [go_sem, sEv, sLook, nbeq, i64_w, -List.length_flatten]) ?_
    refine rw_val (v := .slice A64 n65 c66) (w' := w67) rfl rfl rfl rfl rfl ?_
    refine rw_val (v := errW (frameE ([((([] ++ l0) ++ l1) ++ l2)]).flatten)) (w' := w67) rfl rfl rfl rfl rfl ?_
    refine rw_end ?_
    refine w_weaken (G' := [(0, .slice X0 l0.length d0), (1, .slice X1 l1.length d1), (2, .slice X2 l2.length d2), (6, .bool false), (7, .slice A35 (((([] ++ l0) ++ l1) ++ l2).length) c37), (8, .slice A50 n51 c52), (9, errW (frameE ([l0, l1, l2]).flatten)), (10, .slice A64 n65 c66), (11, errW (frameE ([((([] ++ l0) ++ l1) ++ l2)]).flatten))]) ⟨rfl, rfl, rfl, rfl, rfl, rfl, rfl, rfl, rfl, trivial⟩ ?_
    refine w_seq ?_
    refine w_region ?_
    refine rw_val (v := .slice X0 l0.length d0) (w' := w67) rfl rfl rfl rfl rfl ?_
    refine rw_val (v := .slice X1 l1.length d1) (w' := w67) rfl rfl rfl rfl rfl ?_
    refine rw_val (v := .slice X2 l2.length d2) (w' := w67) rfl rfl rfl rfl rfl ?_
    refine rw_new (cs := #[.slice X0 l0.length d0, .slice X1 l1.length d1, .slice X2 l2.length d2]) (t := 22) (fun g => .slice (some ⟨g, 0, none⟩) 3 3) rfl rfl rfl rfl (by kernel_rfl) ?_
    intro g71 w72 hg76 hz75 hb73 hk74
    have hs_w72 := hb73.size
    have hP77 : (Kd.slice 5 (Kd.int .u8)).C w72 (some ⟨g71, 0, none⟩) [l0, l1, l2].length [l0, l1, l2] := rows3 hk74 e0 (Kd.C_below h0 (chain (chain (chain (chain (chain hB41 hb45) hB55) hb59) hB69) hb73)) e1 (Kd.C_below h1 (chain (chain (chain (chain (chain hB41 hb45) hB55) hb59) hB69) hb73)) e2 (Kd.C_below h2 (chain (chain (chain (chain (chain hB41 hb45) hB55) hb59) hB69) hb73))
    refine rw_call rfl rfl rfl rfl (f := 20) (args := #[.slice (some ⟨g71, 0, none⟩) 3 3]) (by simp [go_sem, sEv, sLook, nbeq, i64_w, -List.length_flatten]) (frame_Sum.calls (2 * [l0, l1, l2].length + 1 + [l0, l1, l2].flatten.length) _ 3 [l0, l1, l2] _ w72 (Kd.C_below hP77 (Below.refl _ _)) (by simp) (sum_f _ (by simp) (by simp only [List.length_append, List.length_nil, List.mem_cons, List.not_mem_nil, or_false, forall_eq_or_imp, forall_eq]; omega) _ (Nat.le_refl _))) ?_
    rintro e_ w78 ⟨rfl, hb79_⟩
    refine ⟨_, rfl, ?_⟩
    have hb79 := hb79_.below
    have hs_w78 := hb79.size
    refine rw_val (v := .slice A35 (((([] ++ l0) ++ l1) ++ l2).length) c37) (w' := w78) rfl rfl rfl rfl rfl ?_
    refine rw_new (cs := #[.slice A35 (((([] ++ l0) ++ l1) ++ l2).length) c37]) (t := 22) (fun g => .slice (some ⟨g, 0, none⟩) 1 1) rfl rfl rfl rfl (by kernel_rfl) ?_
    intro g80 w81 hg85 hz84 hb82 hk83
    have hs_w81 := hb82.size
    have hP86 : (Kd.slice 5 (Kd.int .u8)).C w81 (some ⟨g80, 0, none⟩) [((([] ++ l0) ++ l1) ++ l2)].length [((([] ++ l0) ++ l1) ++ l2)] := rows1 hk83 (hO40.cap) (Own.C (hO40.on (chain (chain (chain (chain (chain (chain hb45 hB55) hb59) hB69) hb73) hb79) hb82)))
    refine rw_call rfl rfl rfl rfl (f := 20) (args := #[.slice (some ⟨g80, 0, none⟩) 1 1]) (by simp [go_sem, sEv, sLook, nbeq, i64_w, -List.length_flatten]) (frame_Sum.calls (2 * [((([] ++ l0) ++ l1) ++ l2)].length + 1 + [((([] ++ l0) ++ l1) ++ l2)].flatten.length) _ 1 [((([] ++ l0) ++ l1) ++ l2)] _ w81 (Kd.C_below hP86 (Below.refl _ _)) (by simp) (sum_f _ (by simp) (by simp only [List.length_append, List.length_nil, List.mem_cons, List.not_mem_nil, or_false, forall_eq_or_imp, forall_eq]; omega) _ (Nat.le_refl _))) ?_
    rintro e_ w87 ⟨rfl, hb88_⟩
    refine ⟨_, rfl, ?_⟩
    have hb88 := hb88_.below
    have hs_w87 := hb88.size
    refine rw_val (v := .bool ((fnv 2166136261 ([l0, l1, l2]).flatten) == (fnv 2166136261 ([((([] ++ l0) ++ l1) ++ l2)]).flatten))) (w' := w87) rfl rfl rfl rfl (by simp [go_sem, sEv, sLook, nbeq, i64_w, -List.length_flatten]) ?_
    refine rw_val (v := .bool ((fnv 2166136261 ([l0, l1, l2]).flatten) == (fnv 2166136261 ([((([] ++ l0) ++ l1) ++ l2)]).flatten))) (w' := w87) rfl rfl rfl rfl rfl ?_
    have hq89 : ((fnv 2166136261 ([l0, l1, l2]).flatten) == (fnv 2166136261 ([((([] ++ l0) ++ l1) ++ l2)]).flatten)) = true := by simp
    refine rw_gval (c := ((fnv 2166136261 ([l0, l1, l2]).flatten) == (fnv 2166136261 ([((([] ++ l0) ++ l1) ++ l2)]).flatten))) (v := .slice A50 n51 c52) (w' := w87) rfl rfl rfl (by simp [hq89]) rfl rfl rfl (by rfl) ?_
    refine rw_gval (c := ((fnv 2166136261 ([l0, l1, l2]).flatten) == (fnv 2166136261 ([((([] ++ l0) ++ l1) ++ l2)]).flatten))) (v := .string (strOfNums (frameB ([l0, l1, l2]).flatten))) (w' := w87) rfl rfl rfl (by simp [hq89]) rfl rfl rfl (run_as (run_str_of (P := Try.prog) (e := 5) (by kernel_rfl) (by kernel_rfl) (by kernel_rfl) (show (Kd.int .u8).C _ _ n51 (frameB ([l0, l1, l2]).flatten) by rw [hL56.len]; exact (Own.C (hL56.on (chain (chain (chain (chain (chain hb59 hB69) hb73) hb79) hb82) hb88)))))) ?_
    refine rw_gval (c := ((fnv 2166136261 ([l0, l1, l2]).flatten) == (fnv 2166136261 ([((([] ++ l0) ++ l1) ++ l2)]).flatten))) (v := .slice A64 n65 c66) (w' := w87) rfl rfl rfl (by simp [hq89]) rfl rfl rfl (by rfl) ?_
    refine rw_gval (c := ((fnv 2166136261 ([l0, l1, l2]).flatten) == (fnv 2166136261 ([((([] ++ l0) ++ l1) ++ l2)]).flatten))) (v := .string (strOfNums (frameB ([((([] ++ l0) ++ l1) ++ l2)]).flatten))) (w' := w87) rfl rfl rfl (by simp [hq89]) rfl rfl rfl (run_as (run_str_of (P := Try.prog) (e := 5) (by kernel_rfl) (by kernel_rfl) (by kernel_rfl) (show (Kd.int .u8).C _ _ n65 (frameB ([((([] ++ l0) ++ l1) ++ l2)]).flatten) by rw [hL70.len]; exact (Own.C (hL70.on (chain (chain (chain hb73 hb79) hb82) hb88)))))) ?_
    refine rw_gval (c := ((fnv 2166136261 ([l0, l1, l2]).flatten) == (fnv 2166136261 ([((([] ++ l0) ++ l1) ++ l2)]).flatten))) (v := .bool (decide (strOfNums (frameB ([l0, l1, l2]).flatten) = strOfNums (frameB ([((([] ++ l0) ++ l1) ++ l2)]).flatten)))) (w' := w87) rfl rfl rfl (by simp [hq89]) rfl rfl rfl (run_as (run_str_eql 9 _ _ _)) ?_
    refine rw_val (v := .bool (decide (strOfNums (frameB ([l0, l1, l2]).flatten) = strOfNums (frameB ([((([] ++ l0) ++ l1) ++ l2)]).flatten)))) (w' := w87) rfl rfl rfl rfl (by simp [go_sem, sEv, sLook, nbeq, i64_w, -List.length_flatten, hq89]) ?_
    refine rw_val (v := .bool (decide (strOfNums (frameB ([l0, l1, l2]).flatten) = strOfNums (frameB ([((([] ++ l0) ++ l1) ++ l2)]).flatten)))) (w' := w87) rfl rfl rfl rfl rfl ?_
    have hq90 : (decide (strOfNums (frameB ([l0, l1, l2]).flatten) = strOfNums (frameB ([((([] ++ l0) ++ l1) ++ l2)]).flatten))) = true := by simp
    refine rw_gval (c := decide (strOfNums (frameB ([l0, l1, l2]).flatten) = strOfNums (frameB ([((([] ++ l0) ++ l1) ++ l2)]).flatten))) (v := errW (frameE ([l0, l1, l2]).flatten)) (w' := w87) rfl rfl rfl (by simp [hq90]) rfl rfl rfl (by rfl) ?_
    refine rw_gcall (c := decide (strOfNums (frameB ([l0, l1, l2]).flatten) = strOfNums (frameB ([((([] ++ l0) ++ l1) ++ l2)]).flatten))) rfl rfl rfl (by simp [hq90]) rfl rfl rfl (f := 21) (args := #[errW (frameE ([l0, l1, l2]).flatten)]) (by simp [go_sem, sEv, sLook, nbeq, i64_w, -List.length_flatten]) (num_calls (frameE ([l0, l1, l2]).flatten) w87) ?_
    rintro e_ w91 ⟨rfl, hb92_⟩
    refine ⟨_, rfl, ?_⟩
    have hb92 := hb92_.below
    have hs_w91 := hb92.size
    refine rw_gval (c := decide (strOfNums (frameB ([l0, l1, l2]).flatten) = strOfNums (frameB ([((([] ++ l0) ++ l1) ++ l2)]).flatten))) (v := errW (frameE ([((([] ++ l0) ++ l1) ++ l2)]).flatten)) (w' := w91) rfl rfl rfl (by simp [hq90]) rfl rfl rfl (by rfl) ?_
    refine rw_gcall (c := decide (strOfNums (frameB ([l0, l1, l2]).flatten) = strOfNums (frameB ([((([] ++ l0) ++ l1) ++ l2)]).flatten))) rfl rfl rfl (by simp [hq90]) rfl rfl rfl (f := 21) (args := #[errW (frameE ([((([] ++ l0) ++ l1) ++ l2)]).flatten)]) (by simp [go_sem, sEv, sLook, nbeq, i64_w, -List.length_flatten]) (num_calls (frameE ([((([] ++ l0) ++ l1) ++ l2)]).flatten) w91) ?_
    rintro e_ w93 ⟨rfl, hb94_⟩
    refine ⟨_, rfl, ?_⟩
    have hb94 := hb94_.below
    have hs_w93 := hb94.size
    refine rw_gval (c := decide (strOfNums (frameB ([l0, l1, l2]).flatten) = strOfNums (frameB ([((([] ++ l0) ++ l1) ++ l2)]).flatten))) (v := .bool ((numR (frameE ([l0, l1, l2]).flatten)) == (numR (frameE ([((([] ++ l0) ++ l1) ++ l2)]).flatten)))) (w' := w93) rfl rfl rfl (by simp [hq90]) rfl rfl rfl (by simp [go_sem, sEv, sLook, nbeq, i64_w, -List.length_flatten]) ?_
    refine rw_val (v := .bool ((numR (frameE ([l0, l1, l2]).flatten)) == (numR (frameE ([((([] ++ l0) ++ l1) ++ l2)]).flatten)))) (w' := w93) rfl rfl rfl rfl (by simp [go_sem, sEv, sLook, nbeq, i64_w, -List.length_flatten, hq90]) ?_
    refine rw_val (v := .bool ((numR (frameE ([l0, l1, l2]).flatten)) == (numR (frameE ([((([] ++ l0) ++ l1) ++ l2)]).flatten)))) (w' := w93) rfl rfl rfl rfl rfl ?_
    refine rw_end ?_
    refine w_weaken (G' := [(6, .bool ((numR (frameE ([l0, l1, l2]).flatten)) == (numR (frameE ([((([] ++ l0) ++ l1) ++ l2)]).flatten))))]) ⟨rfl, trivial⟩ ?_
    have hq95 : ((numR (frameE ([l0, l1, l2]).flatten)) == (numR (frameE ([((([] ++ l0) ++ l1) ++ l2)]).flatten))) = true := by simp
    refine w_ret (post_ret1 rfl rfl ?_)
    exact ⟨by simp only [hq95], (chain (chain (chain (chain (chain (chain (chain (chain (chain (chain hB41 hb45) hB55) hb59) hB69) hb73) hb79) hb82) hb88) hb92) hb94)⟩
end Go.Proofs.Ytjndoihnpnmbjaa.PFrameSums
