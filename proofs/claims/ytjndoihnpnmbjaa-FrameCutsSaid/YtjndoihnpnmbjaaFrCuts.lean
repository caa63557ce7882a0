/- Frames cut anywhere: the walk. -/
import Derived.Test.YtjndoihnpnmbjaaFrSplit
namespace Go.Proofs.Ytjndoihnpnmbjaa.PFrameSums
open Go.RowKit Go.Proofs.YtjndoihnpnmbjaaW.PrintWords Go.Proofs.YtjndoihnpnmbjaaW.PrintLast Go.Proofs.YtjndoihnpnmbjaaW.PrintMore
open Go.Proofs.Ytjndoihnpnmbjaa.Flow
set_option linter.unusedVariables false
set_option linter.unusedSimpArgs false


theorem info3 : (Try.prog.info? 3).map (fun i => (i.zero, i.size, i.bytes)) = some (some (.int .i64 0), 1, 8) := by kernel_rfl
theorem frameE_some {r : List Int} (h : (frameE r).isSome = true) : decide (frameE r = some 7) = true ∧ decide (16376 < (r.length : Int)) = true := by
  unfold frameE at h ⊢
  split at h
  · rename_i h1
    rw [if_pos h1]
    simp
    omega
  · cases h
theorem frameE_none {r : List Int} (h : (frameE r).isSome = false) : r.length ≤ 16376 := by
  unfold frameE at h
  split at h
  · cases h
  · omega
theorem wrap_row (w : World) (A0 : Option Addr) (c0 : Nat) (l : List Int) (hP : (Kd.slice 5 (Kd.int .u8)).C w A0 [l].length [l]) (hc0 : 1 ≤ c0) (hl : l.length ≤ 65536) :
    Calls Try.prog 19 #[.slice A0 1 c0] w fun e w' => ∃ A' n' c', e = .returned (.tuple #[.slice A' n' c', errW (frameE l)]) ∧ Own .u8 5 w' w.heap.size w.heap.size A' n' c' (frameB l) ∧ Below w.heap.size w w' := by
  have h := wrap_calls w A0 c0 [l] hP hc0 (by simp) (by simp; omega)
  have e1 : ([l] : List (List Int)).flatten = l := by simp
  rw [e1] at h
  exact h
theorem en_len (ps : List (List Int)) (n : Nat) : ((List.range n).map fun j => ((ends ps (j + 1) : Nat) : Int)).length = n := by simp
theorem en_rd (ps : List (List Int)) (n j : Nat) (h : j < n) : rd ((List.range n).map fun j => ((ends ps (j + 1) : Nat) : Int)) (j : Int) = ((ends ps (j + 1) : Nat) : Int) := by
  rw [rd_at _ j (by simp; exact h)]
  simp
theorem frameB_le (r : List Int) : (frameB r).length ≤ 16384 := by
  by_cases h : r.length ≤ 16376
  · rw [frameB_len r h]; omega
  · unfold frameB
    rw [if_pos (by omega)]
    simp

theorem fc_bytes : ∀ (ps : List (List Int)), (∀ p ∈ ps, Bytes p) → Bytes (FC ps)
  | [], _ => fun c hc => by simp [FC] at hc
  | p :: ps, h => by
    rw [FC_cons]
    exact (frameB_bytes p (h p (by simp))).append (fc_bytes ps (fun x hx => h x (List.mem_cons_of_mem _ hx)))
set_option maxHeartbeats 4000000 in
theorem cuts_nat (w : World) (P0 : Option Addr) (ps : List (List Int)) (pc : Nat) (hP : (Kd.slice 5 (Kd.int .u8)).C w P0 ps.length ps) (hc0 : ps.length ≤ pc) (hsz : ps.length ≤ 6000000000000) (hbs : ∀ p ∈ ps, Bytes p) (kc : Int) (k : Nat) (hk : Int.tmod (IntKind.u64.wrap kc) (((FC ps).length + 1 : Nat) : Int) = (k : Int)) (hkl : k ≤ (FC ps).length) :
    Calls Try.prog 7 #[.slice P0 ps.length pc, .int .i64 kc] w fun e w' => e = .returned (.bool true) ∧ Below w.heap.size w w' := by
  refine calls_flow Try.func7 rfl 124 rfl (Nat.le_of_ble_eq_true rfl) [(0, .slice P0 ps.length pc), (1, .int .i64 kc)] ?_ ?_
  · intro t v h; exact args_look rfl t v h
  refine w_seq ?_
  refine w_region ?_
  refine rw_val (v := .bool false) (w' := w) rfl rfl rfl rfl rfl ?_
  refine rw_end ?_
  refine w_seq ?_
  refine w_seq ?_
  refine w_region ?_
  refine rw_call rfl rfl rfl rfl (f := 11) (args := #[]) (by simp [go_sem, sEv, sLook, nbeq, i64_w, -List.length_flatten]) (alive_calls w) ?_
  rintro e_ w1 ⟨rfl, hb2⟩
  refine ⟨_, rfl, ?_⟩
  have hs_w1 := hb2.size
  refine rw_val (v := .bool false) (w' := w1) rfl rfl rfl rfl (by simp [go_sem, sEv, sLook, nbeq, i64_w, -List.length_flatten]) ?_
  refine rw_end ?_
  refine w_cond_f rfl rfl rfl ?_
  refine w_skip ?_
  refine w_seq ?_
  refine w_seq ?_
  refine w_region ?_
  refine rw_val (v := .slice P0 ps.length pc) (w' := w1) rfl rfl rfl rfl rfl ?_
  refine rw_call rfl rfl rfl rfl (f := 12) (args := #[.slice P0 ps.length pc]) (by simp [go_sem, sEv, sLook, nbeq, i64_w, -List.length_flatten]) (estuarylaw04_large.calls (ps.length + 1) P0 pc ps _ w1 (Kd.C_below hP hb2) hc0 (large_f ps (by omega) _ (Nat.le_refl _))) ?_
  rintro e_ w3 ⟨rfl, hb4_⟩
  refine ⟨_, rfl, ?_⟩
  have hb4 := hb4_.below
  have hs_w3 := hb4.size
  refine rw_end ?_
  refine w_cond rfl rfl (fun cG => ?_) (fun cG => ?_)
  · refine w_seq ?_
    refine w_region ?_
    refine rw_val (v := .bool true) (w' := w3) rfl rfl rfl rfl rfl ?_
    refine rw_end ?_
    refine w_ret (post_ret1 rfl rfl ?_)
    exact ⟨rfl, (chain hb2 hb4)⟩
  · refine w_skip ?_
    refine w_seq ?_
    refine w_region ?_
    obtain ⟨hlg1_, hlg2_, hlg3_⟩ := lg_no cG
    refine rw_new (cs := #[]) (t := 5) (fun g => .slice (some ⟨g, 0, none⟩) 0 0) rfl rfl rfl rfl (by kernel_rfl) ?_
    intro g5 w6 hg10 hz9 hb7 hk8
    have hs_w6 := hb7.size
    have hO11 : Own .u8 5 w6 w.heap.size w.heap.size (some ⟨g5, 0, none⟩) 0 0 [] := Own.mono (own_blk w.heap.size hk8 (by omega) rfl (by simp) (by omega) (Nums.nil _ _)) (by omega)
    refine rw_val (v := .slice (some ⟨g5, 0, none⟩) 0 0) (w' := w6) rfl rfl rfl rfl rfl ?_
    refine rw_end ?_
    refine w_seq ?_
    refine w_region ?_
    refine rw_new (cs := #[]) (t := 3) (fun g => .slice (some ⟨g, 0, none⟩) 0 0) rfl rfl rfl rfl (by kernel_rfl) ?_
    intro g12 w13 hg17 hz16 hb14 hk15
    have hs_w13 := hb14.size
    have hO18 : Own .i64 3 w13 w.heap.size w.heap.size (some ⟨g12, 0, none⟩) 0 0 [] := Own.mono (own_blk w.heap.size hk15 (by omega) rfl (by simp) (by omega) (Nums.nil _ _)) (by omega)
    refine rw_val (v := .slice (some ⟨g12, 0, none⟩) 0 0) (w' := w13) rfl rfl rfl rfl rfl ?_
    refine rw_end ?_
    refine w_seq ?_
    refine w_seq ?_
    refine w_region ?_
    refine rw_val (v := .slice P0 ps.length pc) (w' := w13) rfl rfl rfl rfl rfl ?_
    refine rw_val (v := .int .i64 (ps.length : Int)) (w' := w13) rfl rfl rfl rfl (by simp [go_sem, sEv, sLook, nbeq, i64_w, -List.length_flatten]) ?_
    refine rw_val (v := .int .i64 0) (w' := w13) rfl rfl rfl rfl rfl ?_
    refine rw_end ?_
    refine w_block ?_
    refine w_loop (fun m_ G W_ => ∃ (i : Nat) (A5 A6 : Option Addr) (n5 c5 n6 c6 : Nat), i + m_ = ps.length ∧ (∀ p ∈ ps.take i, p.length ≤ 16376) ∧ (FC (ps.take i)).length ≤ 16384 * i ∧ Below w.heap.size w W_ ∧ Own .u8 5 W_ w.heap.size w.heap.size A5 n5 c5 (FC (ps.take i)) ∧ Own .i64 3 W_ w.heap.size w.heap.size A6 n6 c6 ((List.range i).map fun j => ((ends ps (j + 1) : Nat) : Int)) ∧ G = [(0, .slice P0 ps.length pc), (1, .int .i64 kc), (5, .slice A5 n5 c5), (6, .slice A6 n6 c6), (22, .slice P0 ps.length pc), (23, .int .i64 (ps.length : Int)), (24, .int .i64 (i : Int))]) ps.length [(0, .slice P0 ps.length pc), (1, .int .i64 kc), (5, .slice (some ⟨g5, 0, none⟩) 0 0), (6, .slice (some ⟨g12, 0, none⟩) 0 0), (22, .slice P0 ps.length pc), (23, .int .i64 (ps.length : Int)), (24, .int .i64 0)] ⟨0, _, _, _, _, _, _, by omega, by simp, by simp [FC], (chain (chain (chain hb2 hb4) hb7) hb14), (by simpa [FC] using (hO11.on hb14)), (by simpa using (hO18.on (Below.refl _ _))), rfl⟩ ⟨rfl, rfl, rfl, rfl, rfl, rfl, rfl, trivial⟩ ?_
    rintro m_ G w_ ⟨i, A5, A6, n5, c5, n6, c6, him, hle2_, hfc_, hBw_, hO5, hO6, rfl⟩
    have hs_w_ := hBw_.size
    refine w_seq ?_
    refine w_region ?_
    refine rw_val (v := .bool (decide ((i : Int) < (ps.length : Int)))) (w' := w_) rfl rfl rfl rfl (by simp [go_sem, sEv, sLook, nbeq, i64_w, -List.length_flatten]) ?_
    refine rw_end ?_
    refine w_seq ?_
    refine w_cond rfl rfl (fun cL => ?_) (fun cL => ?_)
    · refine w_skip ?_
      refine w_seq ?_
      refine w_block ?_
      refine w_seq ?_
      refine w_region ?_
      have l_ := of_decide_eq_true cL
      obtain ⟨ad, A1, c1, hA_, hcell_, hle_, hC_⟩ := at_L2 hP (i : Int) (by omega) (by omega)
      subst hA_
      rw [show ((i : Int)).toNat = i by omega] at hcell_
      have hrl_ := hlg1_ _ (rd_L2_mem ps i (by omega))
      have hFt_ := FC_take ps i (by omega)
      have hfb_ := frameB_le (rd_L2 ps (i : Int))
      refine rw_val (v := .pointer (some (ad.add i))) (w' := w_) rfl rfl rfl rfl (by simp [go_sem, sEv, sLook, nbeq, i64_w, -List.length_flatten, Try.underlying32]; omega) ?_
      have hcell2_ := cellOn hcell_ hBw_
      refine rw_val (v := .slice A1 ((rd_L2 ps (i : Int)).length) c1) (w' := w_) rfl rfl rfl rfl (by simp [go_sem, sEv, sLook, nbeq, i64_w, -List.length_flatten, hcell2_]) ?_
      refine rw_val (v := .slice A1 ((rd_L2 ps (i : Int)).length) c1) (w' := w_) rfl rfl rfl rfl rfl ?_
      refine rw_end ?_
      refine w_seq ?_
      refine w_region ?_
      refine rw_val (v := .slice A1 ((rd_L2 ps (i : Int)).length) c1) (w' := w_) rfl rfl rfl rfl rfl ?_
      refine rw_new (cs := #[.slice A1 ((rd_L2 ps (i : Int)).length) c1]) (t := 22) (fun g => .slice (some ⟨g, 0, none⟩) 1 1) rfl rfl rfl rfl (by kernel_rfl) ?_
      intro g19 w20 hg24 hz23 hb21 hk22
      have hs_w20 := hb21.size
      have hP25 : (Kd.slice 5 (Kd.int .u8)).C w20 (some ⟨g19, 0, none⟩) [(rd_L2 ps (i : Int))].length [(rd_L2 ps (i : Int))] := rows1 hk22 hle_ (Kd.C_below hC_ (chain hBw_ hb21))
      refine rw_call rfl rfl rfl rfl (f := 19) (args := #[.slice (some ⟨g19, 0, none⟩) 1 1]) (by simp [go_sem, sEv, sLook, nbeq, i64_w, -List.length_flatten]) (wrap_row w20 _ 1 (rd_L2 ps (i : Int)) (Kd.C_below hP25 (Below.refl _ _)) (by omega) hrl_) ?_
      rintro e_ w29 ⟨A26, n27, c28, rfl, hO30, hB31⟩
      refine ⟨_, rfl, ?_⟩
      have hs_w29 := hB31.size
      have hL32 : Own .u8 5 w29 w.heap.size w20.heap.size A26 n27 c28 (frameB (rd_L2 ps (i : Int))) := Own.lower hO30 (by omega)
      refine rw_val (v := .tuple #[.slice A26 n27 c28, errW (frameE (rd_L2 ps (i : Int)))]) (w' := w29) rfl rfl rfl rfl rfl ?_
      refine rw_val (v := .slice A26 n27 c28) (w' := w29) rfl rfl rfl rfl (by simp [go_sem, sEv, sLook, nbeq, i64_w, -List.length_flatten]) ?_
      refine rw_val (v := errW (frameE (rd_L2 ps (i : Int)))) (w' := w29) rfl rfl rfl rfl (by simp [go_sem, sEv, sLook, nbeq, i64_w, -List.length_flatten]) ?_
      refine rw_val (v := .slice A26 n27 c28) (w' := w29) rfl rfl rfl rfl rfl ?_
      refine rw_val (v := errW (frameE (rd_L2 ps (i : Int)))) (w' := w29) rfl rfl rfl rfl rfl ?_
      refine rw_end ?_
      refine w_weaken (G' := [(0, .slice (some ad) ps.length pc), (1, .int .i64 kc), (5, .slice A5 n5 c5), (6, .slice A6 n6 c6), (8, .slice A1 ((rd_L2 ps (i : Int)).length) c1), (9, .slice A26 n27 c28), (10, errW (frameE (rd_L2 ps (i : Int)))), (22, .slice (some ad) ps.length pc), (23, .int .i64 (ps.length : Int)), (24, .int .i64 (i : Int))]) ⟨rfl, rfl, rfl, rfl, rfl, rfl, rfl, rfl, rfl, rfl, trivial⟩ ?_
      refine w_seq ?_
      refine w_seq ?_
      refine w_region ?_
      refine rw_val (v := errW (frameE (rd_L2 ps (i : Int)))) (w' := w29) rfl rfl rfl rfl rfl ?_
      refine rw_val (v := .bool ((frameE (rd_L2 ps (i : Int))).isSome)) (w' := w29) rfl rfl rfl rfl (run_as (guard_errW_neq _ (frameE (rd_L2 ps (i : Int))) _)) ?_
      refine rw_end ?_
      refine w_cond rfl rfl (fun cE => ?_) (fun cE => ?_)
      · refine w_seq ?_
        refine w_region ?_
        refine rw_val (v := errW (frameE (rd_L2 ps (i : Int)))) (w' := w29) rfl rfl rfl rfl rfl ?_
        refine rw_val (v := errW (some 7)) (w' := w29) rfl rfl rfl rfl (by simp [go_sem, sEv, sLook, nbeq, i64_w, -List.length_flatten, errW_some]) ?_
        refine rw_val (v := .bool true) (w' := w29) rfl rfl rfl rfl (run_bool (run_as (guard_errW_eql _ _ (frameE (rd_L2 ps (i : Int))) 7 _)) (frameE_some cE).1) ?_
        refine rw_val (v := .bool true) (w' := w29) rfl rfl rfl rfl rfl ?_
        refine rw_on (c := true) rfl rfl rfl rfl ?_
        refine rw_val (v := .slice A1 ((rd_L2 ps (i : Int)).length) c1) (w' := w29) rfl rfl rfl rfl rfl ?_
        refine rw_on (c := true) rfl rfl rfl rfl ?_
        refine rw_val (v := .int .i64 ((rd_L2 ps (i : Int)).length : Int)) (w' := w29) rfl rfl rfl rfl (by simp [go_sem, sEv, sLook, nbeq, i64_w, -List.length_flatten]) ?_
        refine rw_on (c := true) rfl rfl rfl rfl ?_
        refine rw_val (v := .bool true) (w' := w29) rfl rfl rfl rfl (by have h_ := (frameE_some cE).2; simp [go_sem, sEv, sLook, nbeq, i64_w, -List.length_flatten]; simpa using h_) ?_
        refine rw_val (v := .bool true) (w' := w29) rfl rfl rfl rfl (by simp [go_sem, sEv, sLook, nbeq, i64_w, -List.length_flatten]) ?_
        refine rw_val (v := .bool true) (w' := w29) rfl rfl rfl rfl rfl ?_
        refine rw_end ?_
        refine w_weaken (G' := [(0, .slice (some ad) ps.length pc), (1, .int .i64 kc), (4, .bool true), (5, .slice A5 n5 c5), (6, .slice A6 n6 c6), (9, .slice A26 n27 c28), (22, .slice (some ad) ps.length pc), (23, .int .i64 (ps.length : Int)), (24, .int .i64 (i : Int))]) ⟨rfl, rfl, rfl, rfl, rfl, rfl, rfl, rfl, rfl, trivial⟩ ?_
        refine w_ret (post_ret1 rfl rfl ?_)
        exact ⟨rfl, (chain (chain hBw_ hb21) hB31)⟩
      · refine w_skip ?_
        refine w_seq ?_
        refine w_region ?_
        refine rw_val (v := .slice A5 n5 c5) (w' := w29) rfl rfl rfl rfl rfl ?_
        refine rw_val (v := .slice A26 n27 c28) (w' := w29) rfl rfl rfl rfl rfl ?_
        have ho41 := (hO5.on (chain hb21 hB31))
        have hx42 := (hO6.on (chain hb21 hB31))
        refine rw_append_row .u8 w.heap.size rfl rfl rfl (.tmp 44) (.tmp 45) rfl rfl 22 5 1 rfl (by kernel_rfl) info5 (by decide) (b := w.heap.size) rfl rfl (by omega) ho41 (show (Kd.int .u8).C _ _ n27 (frameB (rd_L2 ps (i : Int))) by rw [hL32.len]; exact (Kd.C_below (Own.C hL32) (Below.refl _ _))) (chain (chain hBw_ hb21) hB31) (by omega) (by have q_ := hL32.len; omega) ?_
        intro A33 n34 c35 w36 hn37 hO38 hB39 hG40
        have hs_w36 := hB39.size
        have hgs_w36 := hG40.size
        have hO43 := Own.grown hx42 ho41 (by decide) hG40
        refine rw_val (v := .slice A33 n34 c35) (w' := w36) rfl rfl rfl rfl rfl ?_
        refine rw_end ?_
        refine w_weaken (G' := [(0, .slice (some ad) ps.length pc), (1, .int .i64 kc), (5, .slice A33 n34 c35), (6, .slice A6 n6 c6), (22, .slice (some ad) ps.length pc), (23, .int .i64 (ps.length : Int)), (24, .int .i64 (i : Int))]) ⟨rfl, rfl, rfl, rfl, rfl, rfl, rfl, trivial⟩ ?_
        refine w_region ?_
        refine rw_val (v := .slice A6 n6 c6) (w' := w36) rfl rfl rfl rfl rfl ?_
        refine rw_val (v := .slice A33 n34 c35) (w' := w36) rfl rfl rfl rfl rfl ?_
        refine rw_val (v := .int .i64 ((((FC (ps.take i)) ++ (frameB (rd_L2 ps (i : Int)))).length : Nat) : Int)) (w' := w36) rfl rfl rfl rfl (by have hn_ := hO38.len; simp [go_sem, sEv, sLook, nbeq, i64_w, -List.length_flatten]; (try simp only [List.length_append] at hn_); omega) ?_
        refine rw_new (cs := #[.int .i64 ((((FC (ps.take i)) ++ (frameB (rd_L2 ps (i : Int)))).length : Nat) : Int)]) (t := 3) (fun g => .slice (some ⟨g, 0, none⟩) 1 1) rfl rfl rfl rfl (by kernel_rfl) ?_
        intro g44 w45 hg49 hz48 hb46 hk47
        have hs_w45 := hb46.size
        have hO50 : Own .i64 3 w45 w.heap.size g44 (some ⟨g44, 0, none⟩) 1 1 [((((FC (ps.take i)) ++ (frameB (rd_L2 ps (i : Int)))).length : Nat) : Int)] := own_blk (xs := [((((FC (ps.take i)) ++ (frameB (rd_L2 ps (i : Int)))).length : Nat) : Int)]) w.heap.size hk47 (by omega) rfl (by simp) (by omega) (fun j hj => by
          match j, hj with
          | 0, _ => rfl
          | j + 1, hj => simp at hj)
        have ho59 := (hO43.on hb46)
        have hx60 := (hO38.on hb46)
        refine rw_append_row .i64 w.heap.size rfl rfl rfl (.tmp 47) (.tmp 50) rfl rfl 23 3 8 rfl (by kernel_rfl) info3 (by decide) (b := w.heap.size) rfl rfl (by omega) ho59 (show (Kd.int .i64).C _ _ 1 [((((FC (ps.take i)) ++ (frameB (rd_L2 ps (i : Int)))).length : Nat) : Int)] by rw [hO50.len]; exact (Kd.C_below (Own.C hO50) (Below.refl _ _))) (chain hB39 hb46) (by omega) (by rw [en_len]; omega) ?_
        intro A51 n52 c53 w54 hn55 hO56 hB57 hG58
        have hs_w54 := hB57.size
        have hgs_w54 := hG58.size
        have hO61 := Own.grown hx60 ho59 (by decide) hG58
        refine rw_val (v := .slice A51 n52 c53) (w' := w54) rfl rfl rfl rfl rfl ?_
        refine rw_end ?_
        refine w_weaken (G' := [(0, .slice (some ad) ps.length pc), (1, .int .i64 kc), (5, .slice A33 n34 c35), (6, .slice A51 n52 c53), (22, .slice (some ad) ps.length pc), (23, .int .i64 (ps.length : Int)), (24, .int .i64 (i : Int))]) ⟨rfl, rfl, rfl, rfl, rfl, rfl, rfl, trivial⟩ ?_
        refine w_blk ?_
        refine w_region ?_
        refine rw_val (v := .int .i64 ((i + 1 : Nat) : Int)) (w' := w54) rfl rfl rfl rfl (by simp [go_sem, sEv, sLook, nbeq, i64_w, -List.length_flatten]; have l_ := of_decide_eq_true cL; exact wrap_id (by omega) (by omega)) ?_
        refine rw_val (v := .int .i64 ((i + 1 : Nat) : Int)) (w' := w54) rfl rfl rfl rfl rfl ?_
        refine rw_end ?_
        have h5_ : Own .u8 5 w54 w.heap.size w.heap.size A33 n34 c35 (FC (ps.take (i + 1))) := by rw [hFt_]; exact (hO61.on (Below.refl _ _))
        have e6_ : ((List.range (i + 1)).map fun j => ((ends ps (j + 1) : Nat) : Int)) = ((List.range i).map fun j => ((ends ps (j + 1) : Nat) : Int)) ++ [((ends ps (i + 1) : Nat) : Int)] := by rw [List.range_succ, List.map_append]; rfl
        have e7_ : ends ps (i + 1) = ((FC (ps.take i)) ++ frameB (rd_L2 ps (i : Int))).length := by unfold ends; rw [hFt_]
        have h6_ : Own .i64 3 w54 w.heap.size w.heap.size A51 n52 c53 ((List.range (i + 1)).map fun j => ((ends ps (j + 1) : Nat) : Int)) := by rw [e6_, e7_]; exact (hO56.on (Below.refl _ _))
        have hle3_ : ∀ p ∈ ps.take (i + 1), p.length ≤ 16376 := fun p hp => by
          rw [List.take_succ_eq_append_getElem (by omega)] at hp
          rcases List.mem_append.1 hp with hp | hp
          · exact hle2_ p hp
          · rw [List.mem_singleton.1 hp, ← rd_L2_at ps i (by omega)]
            exact frameE_none cE
        exact w_back (m_ - 1) [(0, .slice (some ad) ps.length pc), (1, .int .i64 kc), (5, .slice A33 n34 c35), (6, .slice A51 n52 c53), (22, .slice (some ad) ps.length pc), (23, .int .i64 (ps.length : Int)), (24, .int .i64 ((i + 1 : Nat) : Int))] (by omega) ⟨rfl, rfl, rfl, rfl, rfl, rfl, rfl, trivial⟩ ⟨i + 1, _, _, _, _, _, _, by omega, hle3_, by rw [hFt_, List.length_append]; omega, hB57, h5_, h6_, rfl⟩
    · have l_ := of_decide_eq_false cL
      obtain rfl : i = ps.length := by omega
      rw [List.take_length] at hO5 hle2_ hfc_
      refine w_exit rfl ?_
      refine w_seq ?_
      refine w_region ?_
      refine rw_val (v := .int .i64 kc) (w' := w_) rfl rfl rfl rfl rfl ?_
      refine rw_val (v := .int .u64 (IntKind.u64.wrap (kc))) (w' := w_) rfl rfl rfl rfl (by simp [go_sem, sEv, sLook, nbeq, i64_w, -List.length_flatten, Try.underlying3, Try.underlying51]) ?_
      refine rw_val (v := .slice A5 n5 c5) (w' := w_) rfl rfl rfl rfl rfl ?_
      refine rw_val (v := .int .i64 (((FC ps).length : Nat) : Int)) (w' := w_) rfl rfl rfl rfl (by have hn_ := hO5.len; simp [go_sem, sEv, sLook, nbeq, i64_w, -List.length_flatten]; (try simp only [List.length_append] at hn_); omega) ?_
      refine rw_val (v := .int .i64 (((FC ps).length + 1 : Nat) : Int)) (w' := w_) rfl rfl rfl rfl (by simp [go_sem, sEv, sLook, nbeq, i64_w, -List.length_flatten]; exact wrap_id (by omega) (by omega)) ?_
      refine rw_val (v := .int .u64 (((FC ps).length + 1 : Nat) : Int)) (w' := w_) rfl rfl rfl rfl (by simp [go_sem, sEv, sLook, nbeq, i64_w, -List.length_flatten]; rw [u64_wrap]; omega) ?_
      refine rw_val (v := .int .u64 (k : Int)) (w' := w_) rfl rfl rfl rfl (by simp [go_sem, sEv, sLook, nbeq, i64_w, -List.length_flatten]; rw [if_neg (by omega)]; have h_ := hk; push_cast at h_; rw [h_]) ?_
      refine rw_val (v := .int .i64 (k : Int)) (w' := w_) rfl rfl rfl rfl (by simp [go_sem, sEv, sLook, nbeq, i64_w, -List.length_flatten]; exact wrap_id (by omega) (by omega)) ?_
      refine rw_val (v := .int .i64 (k : Int)) (w' := w_) rfl rfl rfl rfl rfl ?_
      refine rw_end ?_
      refine w_weaken (G' := [(0, .slice P0 ps.length pc), (5, .slice A5 n5 c5), (6, .slice A6 n6 c6), (11, .int .i64 (k : Int))]) ⟨rfl, rfl, rfl, rfl, trivial⟩ ?_
      refine w_seq ?_
      refine w_region ?_
      refine rw_val (v := .int .i64 0) (w' := w_) rfl rfl rfl rfl rfl ?_
      refine rw_end ?_
      refine w_seq ?_
      refine w_block ?_
      refine w_loop (fun m_ G W_ => ∃ wh : Nat, wh + m_ = ps.length ∧ ends ps wh ≤ k ∧ w_ = W_ ∧ G = [(0, .slice P0 ps.length pc), (5, .slice A5 n5 c5), (6, .slice A6 n6 c6), (11, .int .i64 (k : Int)), (12, .int .i64 (wh : Int))]) ps.length [(0, .slice P0 ps.length pc), (5, .slice A5 n5 c5), (6, .slice A6 n6 c6), (11, .int .i64 (k : Int)), (12, .int .i64 0)] ⟨0, by omega, by rw [ends_zero]; omega, rfl, rfl⟩ ⟨rfl, rfl, rfl, rfl, rfl, trivial⟩ ?_
      rintro m_ G w_2 ⟨wh, hwm, hwk, rfl, rfl⟩
      refine w_seq ?_
      refine w_seq ?_
      refine w_region ?_
      refine rw_val (v := .int .i64 (wh : Int)) (w' := w_) rfl rfl rfl rfl rfl ?_
      refine rw_val (v := .slice A6 n6 c6) (w' := w_) rfl rfl rfl rfl rfl ?_
      refine rw_val (v := .int .i64 (ps.length : Int)) (w' := w_) rfl rfl rfl rfl (by have hn_ := ((hO6.on (Below.refl _ _))).len; rw [en_len] at hn_; simp [go_sem, sEv, sLook, nbeq, i64_w, -List.length_flatten]; omega) ?_
      refine rw_val (v := .bool (decide ((wh : Int) < (ps.length : Int)))) (w' := w_) rfl rfl rfl rfl (by simp [go_sem, sEv, sLook, nbeq, i64_w, -List.length_flatten]) ?_
      refine rw_val (v := .bool (decide ((wh : Int) < (ps.length : Int)))) (w' := w_) rfl rfl rfl rfl rfl ?_
      rcases bcase (decide ((wh : Int) < (ps.length : Int))) with cW | cW
      · refine rw_off (c := decide ((wh : Int) < (ps.length : Int))) rfl rfl rfl (by first | (rw [cW]; rfl) | simp [cW]) rfl rfl ?_
        refine rw_off (c := decide ((wh : Int) < (ps.length : Int))) rfl rfl rfl (by first | (rw [cW]; rfl) | simp [cW]) rfl rfl ?_
        refine rw_off (c := decide ((wh : Int) < (ps.length : Int))) rfl rfl rfl (by first | (rw [cW]; rfl) | simp [cW]) rfl rfl ?_
        refine rw_off (c := decide ((wh : Int) < (ps.length : Int))) rfl rfl rfl (by first | (rw [cW]; rfl) | simp [cW]) rfl rfl ?_
        refine rw_off (c := decide ((wh : Int) < (ps.length : Int))) rfl rfl rfl (by first | (rw [cW]; rfl) | simp [cW]) rfl rfl ?_
        refine rw_off (c := decide ((wh : Int) < (ps.length : Int))) rfl rfl rfl (by first | (rw [cW]; rfl) | simp [cW]) rfl rfl ?_
        refine rw_val (v := .bool false) (w' := w_) rfl rfl rfl rfl (by first | (simp [go_sem, sEv, sLook, nbeq, i64_w, -List.length_flatten, cW]; done) | (simp [go_sem, sEv, sLook, nbeq, i64_w, -List.length_flatten] <;> omega) | (simp [go_sem, sEv, sLook, nbeq, i64_w, -List.length_flatten]; intro h_; exact absurd (by omega) h_) | (rw [cW]; simp [go_sem, sEv, sLook, nbeq, i64_w, -List.length_flatten]; done)) ?_
        refine rw_end ?_
        refine w_weaken (G' := [(0, .slice P0 ps.length pc), (5, .slice A5 n5 c5), (6, .slice A6 n6 c6), (11, .int .i64 (k : Int)), (12, .int .i64 (wh : Int)), (72, .bool false)]) ⟨rfl, rfl, rfl, rfl, rfl, rfl, trivial⟩ ?_
        refine w_cond_f rfl rfl rfl ?_
        have hwx_ : wh < ps.length → k < ends ps (wh + 1) := fun h_ => by have c_ := of_decide_eq_false cW; omega
        refine w_exit rfl ?_
        refine w_seq ?_
        refine w_region ?_
        refine rw_val (v := .slice A5 n5 c5) (w' := w_) rfl rfl rfl rfl rfl ?_
        refine rw_val (v := .int .i64 (k : Int)) (w' := w_) rfl rfl rfl rfl rfl ?_
        have hP62 := (to_C (Own.C hO5) k (by omega))
        have hc63 : ((FC ps).take k).length ≤ c5 := by have q_ := hO5.cap; have q2_ : n5 = (FC ps).length := hO5.len; simp only [List.length_take, List.length_drop]; omega
        refine rw_val (v := .slice A5 (((FC ps).take k).length) c5) (w' := w_) rfl rfl rfl rfl (run_as (run_to (e := 5) (by kernel_rfl) (fun _ => by kernel_rfl) k _ (by first | rfl | (simp; done) | omega) hO5.len (by omega) hO5.cap _)) ?_
        have hFb_ : Bytes (FC ps) := fc_bytes ps hbs
        refine rw_call rfl rfl rfl rfl (f := 26) (args := #[.slice A5 (((FC ps).take k).length) c5]) (by simp [go_sem, sEv, sLook, nbeq, i64_w, -List.length_flatten]) (split_calls w_ A5 c5 ((FC ps).take k) (Kd.C_below hP62 (Below.refl _ _)) hc63 (hFb_.take _) (by simp only [List.length_take]; omega)) ?_
        rintro e_ w68 ⟨out64, n65, A66, c67, rfl, hS69, hR70, hB71⟩
        refine ⟨_, rfl, ?_⟩
        obtain ⟨wh2, q1_, q2_, q3_, q4_, q5_⟩ := split_frames ps hle2_ k _ _ hS69
        have q6_ : wh2 = wh := ends_uniq ps k wh2 wh q1_ (by omega) q4_ q5_ hwk hwx_
        rw [q6_] at q2_ q3_
        subst q2_ q3_
        have hs_w68 := hB71.size
        refine rw_val (v := .tuple #[.slice A66 ((ps.take wh).length) c67, .int .i64 ((ends ps wh : Nat) : Int)]) (w' := w68) rfl rfl rfl rfl rfl ?_
        refine rw_val (v := .slice A66 ((ps.take wh).length) c67) (w' := w68) rfl rfl rfl rfl (by simp [go_sem, sEv, sLook, nbeq, i64_w, -List.length_flatten]) ?_
        refine rw_val (v := .int .i64 ((ends ps wh : Nat) : Int)) (w' := w68) rfl rfl rfl rfl (by simp [go_sem, sEv, sLook, nbeq, i64_w, -List.length_flatten]) ?_
        refine rw_val (v := .slice A66 ((ps.take wh).length) c67) (w' := w68) rfl rfl rfl rfl rfl ?_
        refine rw_val (v := .int .i64 ((ends ps wh : Nat) : Int)) (w' := w68) rfl rfl rfl rfl rfl ?_
        refine rw_end ?_
        refine w_weaken (G' := [(0, .slice P0 ps.length pc), (6, .slice A6 n6 c6), (12, .int .i64 (wh : Int)), (13, .slice A66 ((ps.take wh).length) c67), (14, .int .i64 ((ends ps wh : Nat) : Int))]) ⟨rfl, rfl, rfl, rfl, rfl, trivial⟩ ?_
        refine w_seq ?_
        refine w_seq ?_
        refine w_region ?_
        refine rw_val (v := .slice A66 ((ps.take wh).length) c67) (w' := w68) rfl rfl rfl rfl rfl ?_
        refine rw_val (v := .int .i64 (wh : Int)) (w' := w68) rfl rfl rfl rfl (by simp [go_sem, sEv, sLook, nbeq, i64_w, -List.length_flatten]; omega) ?_
        refine rw_val (v := .int .i64 (wh : Int)) (w' := w68) rfl rfl rfl rfl rfl ?_
        refine rw_val (v := .bool false) (w' := w68) rfl rfl rfl rfl (by simp [go_sem, sEv, sLook, nbeq, i64_w, -List.length_flatten]) ?_
        refine rw_val (v := .bool false) (w' := w68) rfl rfl rfl rfl rfl ?_
        refine rw_on (c := false) rfl rfl rfl rfl ?_
        refine rw_val (v := .int .i64 (wh : Int)) (w' := w68) rfl rfl rfl rfl rfl ?_
        refine rw_on (c := false) rfl rfl rfl rfl ?_
        refine rw_val (v := .bool ((wh : Int) == 0)) (w' := w68) rfl rfl rfl rfl (by simp [go_sem, sEv, sLook, nbeq, i64_w, -List.length_flatten]) ?_
        refine rw_on (c := false) rfl rfl rfl rfl ?_
        refine rw_val (v := .bool ((wh : Int) == 0)) (w' := w68) rfl rfl rfl rfl rfl ?_
        rcases bcase ((wh : Int) == 0) with cQ | cQ
        · refine rw_off (c := ((wh : Int) == 0)) rfl rfl rfl (by first | (rw [cQ]; rfl) | simp [cQ]) rfl rfl ?_
          refine rw_off (c := ((wh : Int) == 0)) rfl rfl rfl (by first | (rw [cQ]; rfl) | simp [cQ]) rfl rfl ?_
          refine rw_on (c := false) rfl rfl rfl rfl ?_
          refine rw_val (v := .bool false) (w' := w68) rfl rfl rfl rfl (by first | (simp [go_sem, sEv, sLook, nbeq, i64_w, -List.length_flatten, cQ]; done) | (simp [go_sem, sEv, sLook, nbeq, i64_w, -List.length_flatten] <;> omega) | (simp [go_sem, sEv, sLook, nbeq, i64_w, -List.length_flatten]; intro h_; exact absurd (by omega) h_) | (rw [cQ]; simp [go_sem, sEv, sLook, nbeq, i64_w, -List.length_flatten]; done)) ?_
          refine rw_val (v := .bool false) (w' := w68) rfl rfl rfl rfl (by simp [go_sem, sEv, sLook, nbeq, i64_w, -List.length_flatten]) ?_
          refine rw_val (v := .bool false) (w' := w68) rfl rfl rfl rfl rfl ?_
          refine rw_on (c := false) rfl rfl rfl rfl ?_
          refine rw_val (v := .int .i64 (wh : Int)) (w' := w68) rfl rfl rfl rfl rfl ?_
          refine rw_on (c := false) rfl rfl rfl rfl ?_
          refine rw_val (v := .bool (decide (0 < (wh : Int)))) (w' := w68) rfl rfl rfl rfl (by simp [go_sem, sEv, sLook, nbeq, i64_w, -List.length_flatten]) ?_
          refine rw_on (c := false) rfl rfl rfl rfl ?_
          refine rw_val (v := .bool (decide (0 < (wh : Int)))) (w' := w68) rfl rfl rfl rfl rfl ?_
          rcases bcase (decide (0 < (wh : Int))) with cZ | cZ
          · refine rw_off (c := decide (0 < (wh : Int))) rfl rfl rfl (by first | (rw [cZ]; rfl) | simp [cZ]) rfl rfl ?_
            refine rw_off (c := decide (0 < (wh : Int))) rfl rfl rfl (by first | (rw [cZ]; rfl) | simp [cZ]) rfl rfl ?_
            refine rw_off (c := decide (0 < (wh : Int))) rfl rfl rfl (by first | (rw [cZ]; rfl) | simp [cZ]) rfl rfl ?_
            refine rw_off (c := decide (0 < (wh : Int))) rfl rfl rfl (by first | (rw [cZ]; rfl) | simp [cZ]) rfl rfl ?_
            refine rw_off (c := decide (0 < (wh : Int))) rfl rfl rfl (by first | (rw [cZ]; rfl) | simp [cZ]) rfl rfl ?_
            refine rw_off (c := decide (0 < (wh : Int))) rfl rfl rfl (by first | (rw [cZ]; rfl) | simp [cZ]) rfl rfl ?_
            refine rw_off (c := decide (0 < (wh : Int))) rfl rfl rfl (by first | (rw [cZ]; rfl) | simp [cZ]) rfl rfl ?_
            refine rw_on (c := false) rfl rfl rfl rfl ?_
            refine rw_val (v := .bool false) (w' := w68) rfl rfl rfl rfl (by first | (simp [go_sem, sEv, sLook, nbeq, i64_w, -List.length_flatten, cZ]; done) | (simp [go_sem, sEv, sLook, nbeq, i64_w, -List.length_flatten] <;> omega) | (simp [go_sem, sEv, sLook, nbeq, i64_w, -List.length_flatten]; intro h_; exact absurd (by omega) h_) | (rw [cZ]; simp [go_sem, sEv, sLook, nbeq, i64_w, -List.length_flatten]; done)) ?_
            refine rw_val (v := .bool false) (w' := w68) rfl rfl rfl rfl (by simp [go_sem, sEv, sLook, nbeq, i64_w, -List.length_flatten]) ?_
            refine rw_end ?_
            refine w_weaken (G' := [(0, .slice P0 ps.length pc), (13, .slice A66 ((ps.take wh).length) c67), (106, .bool false)]) ⟨rfl, rfl, rfl, trivial⟩ ?_
            refine w_cond_f rfl rfl rfl ?_
            refine w_skip ?_
            refine w_seq ?_
            refine w_seq ?_
            refine w_region ?_
            refine rw_val (v := .slice A66 ((ps.take wh).length) c67) (w' := w68) rfl rfl rfl rfl rfl ?_
            refine rw_val (v := .int .i64 (wh : Int)) (w' := w68) rfl rfl rfl rfl (by simp [go_sem, sEv, sLook, nbeq, i64_w, -List.length_flatten]; omega) ?_
            refine rw_val (v := .int .i64 0) (w' := w68) rfl rfl rfl rfl rfl ?_
            refine rw_end ?_
            refine w_block ?_
            have hRC_ := (Kd.R_reads' hR70).2.2
            refine w_loop (fun m_ G W_ => ∃ j : Nat, j + m_ = wh ∧ Below w68.heap.size w68 W_ ∧ G = [(0, .slice P0 ps.length pc), (13, .slice A66 (ps.take wh).length c67), (109, .int .i64 (j : Int)), (108, .int .i64 (wh : Int))]) wh [(0, .slice P0 ps.length pc), (13, .slice A66 (ps.take wh).length c67), (109, .int .i64 0), (108, .int .i64 (wh : Int))] ⟨0, by omega, Below.refl _ _, rfl⟩ ⟨rfl, rfl, rfl, rfl, trivial⟩ ?_
            rintro m_ G w_4 ⟨j, hjm, hB4_, rfl⟩
            have hs_w_4 := hB4_.size
            refine w_seq ?_
            refine w_region ?_
            refine rw_val (v := .bool (decide ((j : Int) < (wh : Int)))) (w' := w_4) rfl rfl rfl rfl (by simp [go_sem, sEv, sLook, nbeq, i64_w, -List.length_flatten]) ?_
            refine rw_end ?_
            refine w_seq ?_
            refine w_cond rfl rfl (fun cJ => ?_) (fun cJ => ?_)
            · refine w_skip ?_
              refine w_seq ?_
              refine w_block ?_
              refine w_seq ?_
              refine w_region ?_
              have l_ := of_decide_eq_true cJ
              obtain ⟨ad8, A8, c8, hA8_, hcell8_, hle8_, hC8_⟩ := at_L2 hRC_ (j : Int) (by omega) (by rw [List.length_take]; omega)
              rw [show ((j : Int)).toNat = j by omega] at hcell8_
              have er_ : rd_L2 (ps.take wh) (j : Int) = rd_L2 ps (j : Int) := by rw [rd_L2_at _ j (by rw [List.length_take]; omega), rd_L2_at ps j (by omega), List.getElem_take]
              rw [er_] at hcell8_ hC8_
              obtain ⟨ad9, A9, c9, hA9_, hcell9_, hle9_, hC9_⟩ := at_L2 hP (j : Int) (by omega) (by omega)
              rw [show ((j : Int)).toNat = j by omega] at hcell9_
              subst hA8_ hA9_
              refine rw_val (v := .int .i64 (j : Int)) (w' := w_4) rfl rfl rfl rfl rfl ?_
              refine rw_val (v := .int .i64 (j : Int)) (w' := w_4) rfl rfl rfl rfl rfl ?_
              refine rw_end ?_
              refine w_seq ?_
              refine w_draw (M := [0, 0, 3, 7, 15, 0, 0, 96, 224, 480, 1023]) (ss := [Is (.slice (some ad8) ((ps.take wh).length) c67), Is (.int .i64 (j : Int)), Is (.pointer (some (ad8.add j))), Is (.slice A8 ((rd_L2 ps (j : Int)).length) c8), Is (.string (strOfNums (rd_L2 ps (j : Int)))), Is (.slice (some ad9) ps.length pc), Is (.int .i64 (j : Int)), Is (.pointer (some (ad9.add j))), Is (.slice A9 ((rd_L2 ps (j : Int)).length) c9), Is (.string (strOfNums (rd_L2 ps (j : Int)))), Is (.bool false)]) rfl (by decide +kernel) ?_
              refine t_is (.slice (some ad8) ((ps.take wh).length) c67) rfl rfl rfl rfl (fun W_ hW_ F_ => rfl) ?_
              refine t_is (.int .i64 (j : Int)) rfl rfl rfl rfl (fun W_ hW_ F_ => rfl) ?_
              refine t_is (.pointer (some (ad8.add j))) rfl rfl rfl rfl (fun W_ hW_ F_ => (by simp [go_sem, sEv, sLook, nbeq, i64_w, -List.length_flatten, Try.underlying32]; omega)) ?_
              refine t_is (.slice A8 ((rd_L2 ps (j : Int)).length) c8) rfl rfl rfl rfl (fun W_ hW_ F_ => (by have e_ := cellOn hcell8_ (chain hB4_ (below_of_drew hW_)); simp [go_sem, sEv, sLook, nbeq, i64_w, -List.length_flatten, e_])) ?_
              refine t_is (.string (strOfNums (rd_L2 ps (j : Int)))) rfl rfl rfl rfl (fun W_ hW_ F_ => run_as (run_str_of (P := Try.prog) (e := 5) (by kernel_rfl) (by kernel_rfl) (by kernel_rfl) (Kd.C_below hC8_ (chain hB4_ (below_of_drew hW_))))) ?_
              refine t_is (.slice (some ad9) ps.length pc) rfl rfl rfl rfl (fun W_ hW_ F_ => rfl) ?_
              refine t_is (.int .i64 (j : Int)) rfl rfl rfl rfl (fun W_ hW_ F_ => rfl) ?_
              refine t_is (.pointer (some (ad9.add j))) rfl rfl rfl rfl (fun W_ hW_ F_ => (by simp [go_sem, sEv, sLook, nbeq, i64_w, -List.length_flatten, Try.underlying32]; omega)) ?_
              refine t_is (.slice A9 ((rd_L2 ps (j : Int)).length) c9) rfl rfl rfl rfl (fun W_ hW_ F_ => (by have e_ := cellOn hcell9_ (chain (chain (chain hBw_ hB71) hB4_) (below_of_drew hW_)); simp [go_sem, sEv, sLook, nbeq, i64_w, -List.length_flatten, e_])) ?_
              refine t_is (.string (strOfNums (rd_L2 ps (j : Int)))) rfl rfl rfl rfl (fun W_ hW_ F_ => run_as (run_str_of (P := Try.prog) (e := 5) (by kernel_rfl) (by kernel_rfl) (by kernel_rfl) (Kd.C_below hC9_ (chain (chain (chain hBw_ hB71) hB4_) (below_of_drew hW_))))) ?_
              refine t_is (.bool false) rfl rfl rfl rfl (fun W_ hW_ F_ => (run_bool (run_as (run_str_neq 9 _ _ _)) (by simp))) ?_
              refine t_end ?_
              intro w72 hb73_ F74
              have hb73 := below_of_drew hb73_
              have hs_w72 := hb73.size
              refine w_weaken (G' := [(0, .slice (some ad9) ps.length pc), (13, .slice (some ad8) ((ps.take wh).length) c67), (108, .int .i64 (wh : Int)), (109, .int .i64 (j : Int)), (122, .bool false)]) ⟨rfl, rfl, rfl, rfl, rfl, trivial⟩ ?_
              refine w_cond_f rfl rfl rfl ?_
              refine w_skip ?_
              refine w_blk ?_
              refine w_region ?_
              refine rw_val (v := .int .i64 ((j + 1 : Nat) : Int)) (w' := w72) rfl rfl rfl rfl (by simp [go_sem, sEv, sLook, nbeq, i64_w, -List.length_flatten]; have l_ := of_decide_eq_true cJ; exact wrap_id (by omega) (by omega)) ?_
              refine rw_val (v := .int .i64 ((j + 1 : Nat) : Int)) (w' := w72) rfl rfl rfl rfl rfl ?_
              refine rw_end ?_
              have l_ := of_decide_eq_true cJ
              exact w_back (m_ - 1) [(0, .slice (some ad9) ps.length pc), (13, .slice (some ad8) (ps.take wh).length c67), (109, .int .i64 ((j + 1 : Nat) : Int)), (108, .int .i64 (wh : Int))] (by omega) ⟨rfl, rfl, rfl, rfl, trivial⟩ ⟨j + 1, by omega, (chain hB4_ hb73), rfl⟩
            · refine w_exit rfl ?_
              refine w_seq ?_
              refine w_region ?_
              refine rw_val (v := .bool true) (w' := w_4) rfl rfl rfl rfl rfl ?_
              refine rw_end ?_
              refine w_ret (post_ret1 rfl rfl ?_)
              exact ⟨rfl, (chain (chain hBw_ hB71) hB4_)⟩
          · refine rw_on (c := decide (0 < (wh : Int))) rfl rfl rfl (by first | (rw [cZ]; rfl) | simp [cZ]) ?_
            refine rw_val (v := .int .i64 ((ends ps wh : Nat) : Int)) (w' := w68) rfl rfl rfl rfl rfl ?_
            refine rw_on (c := decide (0 < (wh : Int))) rfl rfl rfl (by first | (rw [cZ]; rfl) | simp [cZ]) ?_
            refine rw_val (v := .slice A6 n6 c6) (w' := w68) rfl rfl rfl rfl rfl ?_
            refine rw_on (c := decide (0 < (wh : Int))) rfl rfl rfl (by first | (rw [cZ]; rfl) | simp [cZ]) ?_
            refine rw_val (v := .int .i64 (wh : Int)) (w' := w68) rfl rfl rfl rfl rfl ?_
            refine rw_on (c := decide (0 < (wh : Int))) rfl rfl rfl (by first | (rw [cZ]; rfl) | simp [cZ]) ?_
            refine rw_val (v := .int .i64 ((wh - 1 : Nat) : Int)) (w' := w68) rfl rfl rfl rfl (by simp [go_sem, sEv, sLook, nbeq, i64_w, -List.length_flatten]; have z_ := of_decide_eq_true cZ; rw [wrap_id (by omega) (by omega)]; omega) ?_
            refine rw_on (c := decide (0 < (wh : Int))) rfl rfl rfl (by first | (rw [cZ]; rfl) | simp [cZ]) ?_
            have z_ := of_decide_eq_true cZ
            have hn6_ := ((hO6.on hB71)).len
            rw [en_len] at hn6_
            obtain ⟨ad75, hA76, hc77⟩ := Kd.at_int (Own.C (hO6.on hB71)) ((wh - 1 : Nat) : Int) (by omega) (by rw [en_len]; omega)
            rw [en_rd ps ps.length (wh - 1) (by omega)] at hc77
            rw [show (((wh - 1 : Nat) : Int)).toNat = wh - 1 by omega] at hc77
            have hv_ : (Value.slice A6 n6 c6) = .slice (some ad75) ps.length c6 := by rw [hA76, hn6_]
            refine rw_val (v := .pointer (some (ad75.add (wh - 1)))) (w' := w68) rfl rfl rfl rfl (by simp [go_sem, sEv, sLook, nbeq, i64_w, -List.length_flatten, Try.underlying23, hA76]; omega) ?_
            refine rw_on (c := decide (0 < (wh : Int))) rfl rfl rfl (by first | (rw [cZ]; rfl) | simp [cZ]) ?_
            refine rw_val (v := .int .i64 ((ends ps ((wh - 1) + 1) : Nat) : Int)) (w' := w68) rfl rfl rfl rfl (by simp [go_sem, sEv, sLook, nbeq, i64_w, -List.length_flatten, hc77]) ?_
            refine rw_on (c := decide (0 < (wh : Int))) rfl rfl rfl (by first | (rw [cZ]; rfl) | simp [cZ]) ?_
            refine rw_val (v := .bool (((ends ps wh : Nat) : Int) != ((ends ps ((wh - 1) + 1) : Nat) : Int))) (w' := w68) rfl rfl rfl rfl (by simp [go_sem, sEv, sLook, nbeq, i64_w, -List.length_flatten]) ?_
            refine rw_on (c := false) rfl rfl rfl rfl ?_
            refine rw_val (v := .bool (((ends ps wh : Nat) : Int) != ((ends ps ((wh - 1) + 1) : Nat) : Int))) (w' := w68) rfl rfl rfl rfl (by first | (simp [go_sem, sEv, sLook, nbeq, i64_w, -List.length_flatten, cZ]; done) | (simp [go_sem, sEv, sLook, nbeq, i64_w, -List.length_flatten] <;> omega) | (simp [go_sem, sEv, sLook, nbeq, i64_w, -List.length_flatten]; intro h_; exact absurd (by omega) h_) | (rw [cZ]; simp [go_sem, sEv, sLook, nbeq, i64_w, -List.length_flatten]; done)) ?_
            refine rw_val (v := .bool (((ends ps wh : Nat) : Int) != ((ends ps ((wh - 1) + 1) : Nat) : Int))) (w' := w68) rfl rfl rfl rfl (by simp [go_sem, sEv, sLook, nbeq, i64_w, -List.length_flatten]) ?_
            refine rw_end ?_
            refine w_weaken (G' := [(0, .slice P0 ps.length pc), (13, .slice A66 ((ps.take wh).length) c67), (106, .bool (((ends ps wh : Nat) : Int) != ((ends ps ((wh - 1) + 1) : Nat) : Int)))]) ⟨rfl, rfl, rfl, trivial⟩ ?_
            have hq78 : (((ends ps wh : Nat) : Int) != ((ends ps ((wh - 1) + 1) : Nat) : Int)) = false := by have z_ := of_decide_eq_true cZ; rw [show wh - 1 + 1 = wh by omega]; simp
            refine w_cond_f rfl rfl hq78 ?_
            refine w_skip ?_
            refine w_seq ?_
            refine w_seq ?_
            refine w_region ?_
            refine rw_val (v := .slice A66 ((ps.take wh).length) c67) (w' := w68) rfl rfl rfl rfl rfl ?_
            refine rw_val (v := .int .i64 (wh : Int)) (w' := w68) rfl rfl rfl rfl (by simp [go_sem, sEv, sLook, nbeq, i64_w, -List.length_flatten]; omega) ?_
            refine rw_val (v := .int .i64 0) (w' := w68) rfl rfl rfl rfl rfl ?_
            refine rw_end ?_
            refine w_block ?_
            have hRC_ := (Kd.R_reads' hR70).2.2
            refine w_loop (fun m_ G W_ => ∃ j : Nat, j + m_ = wh ∧ Below w68.heap.size w68 W_ ∧ G = [(0, .slice P0 ps.length pc), (13, .slice A66 (ps.take wh).length c67), (109, .int .i64 (j : Int)), (108, .int .i64 (wh : Int))]) wh [(0, .slice P0 ps.length pc), (13, .slice A66 (ps.take wh).length c67), (109, .int .i64 0), (108, .int .i64 (wh : Int))] ⟨0, by omega, Below.refl _ _, rfl⟩ ⟨rfl, rfl, rfl, rfl, trivial⟩ ?_
            rintro m_ G w_4 ⟨j, hjm, hB4_, rfl⟩
            have hs_w_4 := hB4_.size
            refine w_seq ?_
            refine w_region ?_
            refine rw_val (v := .bool (decide ((j : Int) < (wh : Int)))) (w' := w_4) rfl rfl rfl rfl (by simp [go_sem, sEv, sLook, nbeq, i64_w, -List.length_flatten]) ?_
            refine rw_end ?_
            refine w_seq ?_
            refine w_cond rfl rfl (fun cJ => ?_) (fun cJ => ?_)
            · refine w_skip ?_
              refine w_seq ?_
              refine w_block ?_
              refine w_seq ?_
              refine w_region ?_
              have l_ := of_decide_eq_true cJ
              obtain ⟨ad8, A8, c8, hA8_, hcell8_, hle8_, hC8_⟩ := at_L2 hRC_ (j : Int) (by omega) (by rw [List.length_take]; omega)
              rw [show ((j : Int)).toNat = j by omega] at hcell8_
              have er_ : rd_L2 (ps.take wh) (j : Int) = rd_L2 ps (j : Int) := by rw [rd_L2_at _ j (by rw [List.length_take]; omega), rd_L2_at ps j (by omega), List.getElem_take]
              rw [er_] at hcell8_ hC8_
              obtain ⟨ad9, A9, c9, hA9_, hcell9_, hle9_, hC9_⟩ := at_L2 hP (j : Int) (by omega) (by omega)
              rw [show ((j : Int)).toNat = j by omega] at hcell9_
              subst hA8_ hA9_
              refine rw_val (v := .int .i64 (j : Int)) (w' := w_4) rfl rfl rfl rfl rfl ?_
              refine rw_val (v := .int .i64 (j : Int)) (w' := w_4) rfl rfl rfl rfl rfl ?_
              refine rw_end ?_
              refine w_seq ?_
              refine w_draw (M := [0, 0, 3, 7, 15, 0, 0, 96, 224, 480, 1023]) (ss := [Is (.slice (some ad8) ((ps.take wh).length) c67), Is (.int .i64 (j : Int)), Is (.pointer (some (ad8.add j))), Is (.slice A8 ((rd_L2 ps (j : Int)).length) c8), Is (.string (strOfNums (rd_L2 ps (j : Int)))), Is (.slice (some ad9) ps.length pc), Is (.int .i64 (j : Int)), Is (.pointer (some (ad9.add j))), Is (.slice A9 ((rd_L2 ps (j : Int)).length) c9), Is (.string (strOfNums (rd_L2 ps (j : Int)))), Is (.bool false)]) rfl (by decide +kernel) ?_
              refine t_is (.slice (some ad8) ((ps.take wh).length) c67) rfl rfl rfl rfl (fun W_ hW_ F_ => rfl) ?_
              refine t_is (.int .i64 (j : Int)) rfl rfl rfl rfl (fun W_ hW_ F_ => rfl) ?_
              refine t_is (.pointer (some (ad8.add j))) rfl rfl rfl rfl (fun W_ hW_ F_ => (by simp [go_sem, sEv, sLook, nbeq, i64_w, -List.length_flatten, Try.underlying32]; omega)) ?_
              refine t_is (.slice A8 ((rd_L2 ps (j : Int)).length) c8) rfl rfl rfl rfl (fun W_ hW_ F_ => (by have e_ := cellOn hcell8_ (chain hB4_ (below_of_drew hW_)); simp [go_sem, sEv, sLook, nbeq, i64_w, -List.length_flatten, e_])) ?_
              refine t_is (.string (strOfNums (rd_L2 ps (j : Int)))) rfl rfl rfl rfl (fun W_ hW_ F_ => run_as (run_str_of (P := Try.prog) (e := 5) (by kernel_rfl) (by kernel_rfl) (by kernel_rfl) (Kd.C_below hC8_ (chain hB4_ (below_of_drew hW_))))) ?_
              refine t_is (.slice (some ad9) ps.length pc) rfl rfl rfl rfl (fun W_ hW_ F_ => rfl) ?_
              refine t_is (.int .i64 (j : Int)) rfl rfl rfl rfl (fun W_ hW_ F_ => rfl) ?_
              refine t_is (.pointer (some (ad9.add j))) rfl rfl rfl rfl (fun W_ hW_ F_ => (by simp [go_sem, sEv, sLook, nbeq, i64_w, -List.length_flatten, Try.underlying32]; omega)) ?_
              refine t_is (.slice A9 ((rd_L2 ps (j : Int)).length) c9) rfl rfl rfl rfl (fun W_ hW_ F_ => (by have e_ := cellOn hcell9_ (chain (chain (chain hBw_ hB71) hB4_) (below_of_drew hW_)); simp [go_sem, sEv, sLook, nbeq, i64_w, -List.length_flatten, e_])) ?_
              refine t_is (.string (strOfNums (rd_L2 ps (j : Int)))) rfl rfl rfl rfl (fun W_ hW_ F_ => run_as (run_str_of (P := Try.prog) (e := 5) (by kernel_rfl) (by kernel_rfl) (by kernel_rfl) (Kd.C_below hC9_ (chain (chain (chain hBw_ hB71) hB4_) (below_of_drew hW_))))) ?_
              refine t_is (.bool false) rfl rfl rfl rfl (fun W_ hW_ F_ => (run_bool (run_as (run_str_neq 9 _ _ _)) (by simp))) ?_
              refine t_end ?_
              intro w79 hb80_ F81
              have hb80 := below_of_drew hb80_
              have hs_w79 := hb80.size
              refine w_weaken (G' := [(0, .slice (some ad9) ps.length pc), (13, .slice (some ad8) ((ps.take wh).length) c67), (108, .int .i64 (wh : Int)), (109, .int .i64 (j : Int)), (122, .bool false)]) ⟨rfl, rfl, rfl, rfl, rfl, trivial⟩ ?_
              refine w_cond_f rfl rfl rfl ?_
              refine w_skip ?_
              refine w_blk ?_
              refine w_region ?_
              refine rw_val (v := .int .i64 ((j + 1 : Nat) : Int)) (w' := w79) rfl rfl rfl rfl (by simp [go_sem, sEv, sLook, nbeq, i64_w, -List.length_flatten]; have l_ := of_decide_eq_true cJ; exact wrap_id (by omega) (by omega)) ?_
              refine rw_val (v := .int .i64 ((j + 1 : Nat) : Int)) (w' := w79) rfl rfl rfl rfl rfl ?_
              refine rw_end ?_
              have l_ := of_decide_eq_true cJ
              exact w_back (m_ - 1) [(0, .slice (some ad9) ps.length pc), (13, .slice (some ad8) (ps.take wh).length c67), (109, .int .i64 ((j + 1 : Nat) : Int)), (108, .int .i64 (wh : Int))] (by omega) ⟨rfl, rfl, rfl, rfl, trivial⟩ ⟨j + 1, by omega, (chain hB4_ hb80), rfl⟩
            · refine w_exit rfl ?_
              refine w_seq ?_
              refine w_region ?_
              refine rw_val (v := .bool true) (w' := w_4) rfl rfl rfl rfl rfl ?_
              refine rw_end ?_
              refine w_ret (post_ret1 rfl rfl ?_)
              exact ⟨rfl, (chain (chain hBw_ hB71) hB4_)⟩
        · refine rw_on (c := ((wh : Int) == 0)) rfl rfl rfl (by first | (rw [cQ]; rfl) | simp [cQ]) ?_
          refine rw_val (v := .int .i64 ((ends ps wh : Nat) : Int)) (w' := w68) rfl rfl rfl rfl rfl ?_
          refine rw_on (c := ((wh : Int) == 0)) rfl rfl rfl (by first | (rw [cQ]; rfl) | simp [cQ]) ?_
          refine rw_val (v := .bool (((ends ps wh : Nat) : Int) != 0)) (w' := w68) rfl rfl rfl rfl (by simp [go_sem, sEv, sLook, nbeq, i64_w, -List.length_flatten]) ?_
          refine rw_on (c := false) rfl rfl rfl rfl ?_
          refine rw_val (v := .bool (((ends ps wh : Nat) : Int) != 0)) (w' := w68) rfl rfl rfl rfl (by first | (simp [go_sem, sEv, sLook, nbeq, i64_w, -List.length_flatten, cQ]; done) | (simp [go_sem, sEv, sLook, nbeq, i64_w, -List.length_flatten] <;> omega) | (simp [go_sem, sEv, sLook, nbeq, i64_w, -List.length_flatten]; intro h_; exact absurd (by omega) h_) | (rw [cQ]; simp [go_sem, sEv, sLook, nbeq, i64_w, -List.length_flatten]; done)) ?_
          refine rw_val (v := .bool (((ends ps wh : Nat) : Int) != 0)) (w' := w68) rfl rfl rfl rfl (by simp [go_sem, sEv, sLook, nbeq, i64_w, -List.length_flatten]) ?_
          refine rw_val (v := .bool (((ends ps wh : Nat) : Int) != 0)) (w' := w68) rfl rfl rfl rfl rfl ?_
          have hq82 : (((ends ps wh : Nat) : Int) != 0) = false := by have q_ : wh = 0 := (by simpa using cQ); rw [q_, ends_zero]; rfl
          refine rw_on (c := (((ends ps wh : Nat) : Int) != 0)) rfl rfl rfl (by first | (rw [hq82]; rfl) | simp [hq82]) ?_
          refine rw_val (v := .int .i64 (wh : Int)) (w' := w68) rfl rfl rfl rfl rfl ?_
          refine rw_on (c := (((ends ps wh : Nat) : Int) != 0)) rfl rfl rfl (by first | (rw [hq82]; rfl) | simp [hq82]) ?_
          refine rw_val (v := .bool (decide (0 < (wh : Int)))) (w' := w68) rfl rfl rfl rfl (by simp [go_sem, sEv, sLook, nbeq, i64_w, -List.length_flatten]) ?_
          refine rw_on (c := (((ends ps wh : Nat) : Int) != 0)) rfl rfl rfl (by first | (rw [hq82]; rfl) | simp [hq82]) ?_
          refine rw_val (v := .bool (decide (0 < (wh : Int)))) (w' := w68) rfl rfl rfl rfl rfl ?_
          rcases bcase (decide (0 < (wh : Int))) with cZ | cZ
          · refine rw_off (c := decide (0 < (wh : Int))) rfl rfl rfl (by first | (rw [cZ]; rfl) | simp [cZ]) rfl rfl ?_
            refine rw_off (c := decide (0 < (wh : Int))) rfl rfl rfl (by first | (rw [cZ]; rfl) | simp [cZ]) rfl rfl ?_
            refine rw_off (c := decide (0 < (wh : Int))) rfl rfl rfl (by first | (rw [cZ]; rfl) | simp [cZ]) rfl rfl ?_
            refine rw_off (c := decide (0 < (wh : Int))) rfl rfl rfl (by first | (rw [cZ]; rfl) | simp [cZ]) rfl rfl ?_
            refine rw_off (c := decide (0 < (wh : Int))) rfl rfl rfl (by first | (rw [cZ]; rfl) | simp [cZ]) rfl rfl ?_
            refine rw_off (c := decide (0 < (wh : Int))) rfl rfl rfl (by first | (rw [cZ]; rfl) | simp [cZ]) rfl rfl ?_
            refine rw_off (c := decide (0 < (wh : Int))) rfl rfl rfl (by first | (rw [cZ]; rfl) | simp [cZ]) rfl rfl ?_
            refine rw_on (c := (((ends ps wh : Nat) : Int) != 0)) rfl rfl rfl (by first | (rw [hq82]; rfl) | simp [hq82]) ?_
            refine rw_val (v := .bool false) (w' := w68) rfl rfl rfl rfl (by first | (simp [go_sem, sEv, sLook, nbeq, i64_w, -List.length_flatten, cZ]; done) | (simp [go_sem, sEv, sLook, nbeq, i64_w, -List.length_flatten] <;> omega) | (simp [go_sem, sEv, sLook, nbeq, i64_w, -List.length_flatten]; intro h_; exact absurd (by omega) h_) | (rw [cZ]; simp [go_sem, sEv, sLook, nbeq, i64_w, -List.length_flatten]; done)) ?_
            refine rw_val (v := .bool false) (w' := w68) rfl rfl rfl rfl (by first | (simp [go_sem, sEv, sLook, nbeq, i64_w, -List.length_flatten, hq82]; done) | (simp [go_sem, sEv, sLook, nbeq, i64_w, -List.length_flatten] <;> omega) | (simp [go_sem, sEv, sLook, nbeq, i64_w, -List.length_flatten]; intro h_; exact absurd (by omega) h_) | (rw [hq82]; simp [go_sem, sEv, sLook, nbeq, i64_w, -List.length_flatten]; done)) ?_
            refine rw_end ?_
            refine w_weaken (G' := [(0, .slice P0 ps.length pc), (13, .slice A66 ((ps.take wh).length) c67), (106, .bool false)]) ⟨rfl, rfl, rfl, trivial⟩ ?_
            refine w_cond_f rfl rfl rfl ?_
            refine w_skip ?_
            refine w_seq ?_
            refine w_seq ?_
            refine w_region ?_
            refine rw_val (v := .slice A66 ((ps.take wh).length) c67) (w' := w68) rfl rfl rfl rfl rfl ?_
            refine rw_val (v := .int .i64 (wh : Int)) (w' := w68) rfl rfl rfl rfl (by simp [go_sem, sEv, sLook, nbeq, i64_w, -List.length_flatten]; omega) ?_
            refine rw_val (v := .int .i64 0) (w' := w68) rfl rfl rfl rfl rfl ?_
            refine rw_end ?_
            refine w_block ?_
            have hRC_ := (Kd.R_reads' hR70).2.2
            refine w_loop (fun m_ G W_ => ∃ j : Nat, j + m_ = wh ∧ Below w68.heap.size w68 W_ ∧ G = [(0, .slice P0 ps.length pc), (13, .slice A66 (ps.take wh).length c67), (109, .int .i64 (j : Int)), (108, .int .i64 (wh : Int))]) wh [(0, .slice P0 ps.length pc), (13, .slice A66 (ps.take wh).length c67), (109, .int .i64 0), (108, .int .i64 (wh : Int))] ⟨0, by omega, Below.refl _ _, rfl⟩ ⟨rfl, rfl, rfl, rfl, trivial⟩ ?_
            rintro m_ G w_4 ⟨j, hjm, hB4_, rfl⟩
            have hs_w_4 := hB4_.size
            refine w_seq ?_
            refine w_region ?_
            refine rw_val (v := .bool (decide ((j : Int) < (wh : Int)))) (w' := w_4) rfl rfl rfl rfl (by simp [go_sem, sEv, sLook, nbeq, i64_w, -List.length_flatten]) ?_
            refine rw_end ?_
            refine w_seq ?_
            refine w_cond rfl rfl (fun cJ => ?_) (fun cJ => ?_)
            · refine w_skip ?_
              refine w_seq ?_
              refine w_block ?_
              refine w_seq ?_
              refine w_region ?_
              have l_ := of_decide_eq_true cJ
              obtain ⟨ad8, A8, c8, hA8_, hcell8_, hle8_, hC8_⟩ := at_L2 hRC_ (j : Int) (by omega) (by rw [List.length_take]; omega)
              rw [show ((j : Int)).toNat = j by omega] at hcell8_
              have er_ : rd_L2 (ps.take wh) (j : Int) = rd_L2 ps (j : Int) := by rw [rd_L2_at _ j (by rw [List.length_take]; omega), rd_L2_at ps j (by omega), List.getElem_take]
              rw [er_] at hcell8_ hC8_
              obtain ⟨ad9, A9, c9, hA9_, hcell9_, hle9_, hC9_⟩ := at_L2 hP (j : Int) (by omega) (by omega)
              rw [show ((j : Int)).toNat = j by omega] at hcell9_
              subst hA8_ hA9_
              refine rw_val (v := .int .i64 (j : Int)) (w' := w_4) rfl rfl rfl rfl rfl ?_
              refine rw_val (v := .int .i64 (j : Int)) (w' := w_4) rfl rfl rfl rfl rfl ?_
              refine rw_end ?_
              refine w_seq ?_
              refine w_draw (M := [0, 0, 3, 7, 15, 0, 0, 96, 224, 480, 1023]) (ss := [Is (.slice (some ad8) ((ps.take wh).length) c67), Is (.int .i64 (j : Int)), Is (.pointer (some (ad8.add j))), Is (.slice A8 ((rd_L2 ps (j : Int)).length) c8), Is (.string (strOfNums (rd_L2 ps (j : Int)))), Is (.slice (some ad9) ps.length pc), Is (.int .i64 (j : Int)), Is (.pointer (some (ad9.add j))), Is (.slice A9 ((rd_L2 ps (j : Int)).length) c9), Is (.string (strOfNums (rd_L2 ps (j : Int)))), Is (.bool false)]) rfl (by decide +kernel) ?_
              refine t_is (.slice (some ad8) ((ps.take wh).length) c67) rfl rfl rfl rfl (fun W_ hW_ F_ => rfl) ?_
              refine t_is (.int .i64 (j : Int)) rfl rfl rfl rfl (fun W_ hW_ F_ => rfl) ?_
              refine t_is (.pointer (some (ad8.add j))) rfl rfl rfl rfl (fun W_ hW_ F_ => (by simp [go_sem, sEv, sLook, nbeq, i64_w, -List.length_flatten, Try.underlying32]; omega)) ?_
              refine t_is (.slice A8 ((rd_L2 ps (j : Int)).length) c8) rfl rfl rfl rfl (fun W_ hW_ F_ => (by have e_ := cellOn hcell8_ (chain hB4_ (below_of_drew hW_)); simp [go_sem, sEv, sLook, nbeq, i64_w, -List.length_flatten, e_])) ?_
              refine t_is (.string (strOfNums (rd_L2 ps (j : Int)))) rfl rfl rfl rfl (fun W_ hW_ F_ => run_as (run_str_of (P := Try.prog) (e := 5) (by kernel_rfl) (by kernel_rfl) (by kernel_rfl) (Kd.C_below hC8_ (chain hB4_ (below_of_drew hW_))))) ?_
              refine t_is (.slice (some ad9) ps.length pc) rfl rfl rfl rfl (fun W_ hW_ F_ => rfl) ?_
              refine t_is (.int .i64 (j : Int)) rfl rfl rfl rfl (fun W_ hW_ F_ => rfl) ?_
              refine t_is (.pointer (some (ad9.add j))) rfl rfl rfl rfl (fun W_ hW_ F_ => (by simp [go_sem, sEv, sLook, nbeq, i64_w, -List.length_flatten, Try.underlying32]; omega)) ?_
              refine t_is (.slice A9 ((rd_L2 ps (j : Int)).length) c9) rfl rfl rfl rfl (fun W_ hW_ F_ => (by have e_ := cellOn hcell9_ (chain (chain (chain hBw_ hB71) hB4_) (below_of_drew hW_)); simp [go_sem, sEv, sLook, nbeq, i64_w, -List.length_flatten, e_])) ?_
              refine t_is (.string (strOfNums (rd_L2 ps (j : Int)))) rfl rfl rfl rfl (fun W_ hW_ F_ => run_as (run_str_of (P := Try.prog) (e := 5) (by kernel_rfl) (by kernel_rfl) (by kernel_rfl) (Kd.C_below hC9_ (chain (chain (chain hBw_ hB71) hB4_) (below_of_drew hW_))))) ?_
              refine t_is (.bool false) rfl rfl rfl rfl (fun W_ hW_ F_ => (run_bool (run_as (run_str_neq 9 _ _ _)) (by simp))) ?_
              refine t_end ?_
              intro w83 hb84_ F85
              have hb84 := below_of_drew hb84_
              have hs_w83 := hb84.size
              refine w_weaken (G' := [(0, .slice (some ad9) ps.length pc), (13, .slice (some ad8) ((ps.take wh).length) c67), (108, .int .i64 (wh : Int)), (109, .int .i64 (j : Int)), (122, .bool false)]) ⟨rfl, rfl, rfl, rfl, rfl, trivial⟩ ?_
              refine w_cond_f rfl rfl rfl ?_
              refine w_skip ?_
              refine w_blk ?_
              refine w_region ?_
              refine rw_val (v := .int .i64 ((j + 1 : Nat) : Int)) (w' := w83) rfl rfl rfl rfl (by simp [go_sem, sEv, sLook, nbeq, i64_w, -List.length_flatten]; have l_ := of_decide_eq_true cJ; exact wrap_id (by omega) (by omega)) ?_
              refine rw_val (v := .int .i64 ((j + 1 : Nat) : Int)) (w' := w83) rfl rfl rfl rfl rfl ?_
              refine rw_end ?_
              have l_ := of_decide_eq_true cJ
              exact w_back (m_ - 1) [(0, .slice (some ad9) ps.length pc), (13, .slice (some ad8) (ps.take wh).length c67), (109, .int .i64 ((j + 1 : Nat) : Int)), (108, .int .i64 (wh : Int))] (by omega) ⟨rfl, rfl, rfl, rfl, trivial⟩ ⟨j + 1, by omega, (chain hB4_ hb84), rfl⟩
            · refine w_exit rfl ?_
              refine w_seq ?_
              refine w_region ?_
              refine rw_val (v := .bool true) (w' := w_4) rfl rfl rfl rfl rfl ?_
              refine rw_end ?_
              refine w_ret (post_ret1 rfl rfl ?_)
              exact ⟨rfl, (chain (chain hBw_ hB71) hB4_)⟩
          · refine rw_on (c := decide (0 < (wh : Int))) rfl rfl rfl (by first | (rw [cZ]; rfl) | simp [cZ]) ?_
            refine rw_val (v := .int .i64 ((ends ps wh : Nat) : Int)) (w' := w68) rfl rfl rfl rfl rfl ?_
            refine rw_on (c := decide (0 < (wh : Int))) rfl rfl rfl (by first | (rw [cZ]; rfl) | simp [cZ]) ?_
            refine rw_val (v := .slice A6 n6 c6) (w' := w68) rfl rfl rfl rfl rfl ?_
            refine rw_on (c := decide (0 < (wh : Int))) rfl rfl rfl (by first | (rw [cZ]; rfl) | simp [cZ]) ?_
            refine rw_val (v := .int .i64 (wh : Int)) (w' := w68) rfl rfl rfl rfl rfl ?_
            refine rw_on (c := decide (0 < (wh : Int))) rfl rfl rfl (by first | (rw [cZ]; rfl) | simp [cZ]) ?_
            refine rw_val (v := .int .i64 ((wh - 1 : Nat) : Int)) (w' := w68) rfl rfl rfl rfl (by simp [go_sem, sEv, sLook, nbeq, i64_w, -List.length_flatten]; have z_ := of_decide_eq_true cZ; rw [wrap_id (by omega) (by omega)]; omega) ?_
            refine rw_on (c := decide (0 < (wh : Int))) rfl rfl rfl (by first | (rw [cZ]; rfl) | simp [cZ]) ?_
            have z_ := of_decide_eq_true cZ
            have hn6_ := ((hO6.on hB71)).len
            rw [en_len] at hn6_
            obtain ⟨ad86, hA87, hc88⟩ := Kd.at_int (Own.C (hO6.on hB71)) ((wh - 1 : Nat) : Int) (by omega) (by rw [en_len]; omega)
            rw [en_rd ps ps.length (wh - 1) (by omega)] at hc88
            rw [show (((wh - 1 : Nat) : Int)).toNat = wh - 1 by omega] at hc88
            have hv_ : (Value.slice A6 n6 c6) = .slice (some ad86) ps.length c6 := by rw [hA87, hn6_]
            refine rw_val (v := .pointer (some (ad86.add (wh - 1)))) (w' := w68) rfl rfl rfl rfl (by simp [go_sem, sEv, sLook, nbeq, i64_w, -List.length_flatten, Try.underlying23, hA87]; omega) ?_
            refine rw_on (c := decide (0 < (wh : Int))) rfl rfl rfl (by first | (rw [cZ]; rfl) | simp [cZ]) ?_
            refine rw_val (v := .int .i64 ((ends ps ((wh - 1) + 1) : Nat) : Int)) (w' := w68) rfl rfl rfl rfl (by simp [go_sem, sEv, sLook, nbeq, i64_w, -List.length_flatten, hc88]) ?_
            refine rw_on (c := decide (0 < (wh : Int))) rfl rfl rfl (by first | (rw [cZ]; rfl) | simp [cZ]) ?_
            refine rw_val (v := .bool (((ends ps wh : Nat) : Int) != ((ends ps ((wh - 1) + 1) : Nat) : Int))) (w' := w68) rfl rfl rfl rfl (by simp [go_sem, sEv, sLook, nbeq, i64_w, -List.length_flatten]) ?_
            refine rw_on (c := (((ends ps wh : Nat) : Int) != 0)) rfl rfl rfl (by first | (rw [hq82]; rfl) | simp [hq82]) ?_
            refine rw_val (v := .bool (((ends ps wh : Nat) : Int) != ((ends ps ((wh - 1) + 1) : Nat) : Int))) (w' := w68) rfl rfl rfl rfl (by first | (simp [go_sem, sEv, sLook, nbeq, i64_w, -List.length_flatten, cZ]; done) | (simp [go_sem, sEv, sLook, nbeq, i64_w, -List.length_flatten] <;> omega) | (simp [go_sem, sEv, sLook, nbeq, i64_w, -List.length_flatten]; intro h_; exact absurd (by omega) h_) | (rw [cZ]; simp [go_sem, sEv, sLook, nbeq, i64_w, -List.length_flatten]; done)) ?_
            refine rw_val (v := .bool (((ends ps wh : Nat) : Int) != ((ends ps ((wh - 1) + 1) : Nat) : Int))) (w' := w68) rfl rfl rfl rfl (by first | (simp [go_sem, sEv, sLook, nbeq, i64_w, -List.length_flatten, hq82]; done) | (simp [go_sem, sEv, sLook, nbeq, i64_w, -List.length_flatten] <;> omega) | (simp [go_sem, sEv, sLook, nbeq, i64_w, -List.length_flatten]; intro h_; exact absurd (by omega) h_) | (rw [hq82]; simp [go_sem, sEv, sLook, nbeq, i64_w, -List.length_flatten]; done)) ?_
            refine rw_end ?_
            refine w_weaken (G' := [(0, .slice P0 ps.length pc), (13, .slice A66 ((ps.take wh).length) c67), (106, .bool (((ends ps wh : Nat) : Int) != ((ends ps ((wh - 1) + 1) : Nat) : Int)))]) ⟨rfl, rfl, rfl, trivial⟩ ?_
            have hq89 : (((ends ps wh : Nat) : Int) != ((ends ps ((wh - 1) + 1) : Nat) : Int)) = false := by have z_ := of_decide_eq_true cZ; rw [show wh - 1 + 1 = wh by omega]; simp
            refine w_cond_f rfl rfl hq89 ?_
            refine w_skip ?_
            refine w_seq ?_
            refine w_seq ?_
            refine w_region ?_
            refine rw_val (v := .slice A66 ((ps.take wh).length) c67) (w' := w68) rfl rfl rfl rfl rfl ?_
            refine rw_val (v := .int .i64 (wh : Int)) (w' := w68) rfl rfl rfl rfl (by simp [go_sem, sEv, sLook, nbeq, i64_w, -List.length_flatten]; omega) ?_
            refine rw_val (v := .int .i64 0) (w' := w68) rfl rfl rfl rfl rfl ?_
            refine rw_end ?_
            refine w_block ?_
            have hRC_ := (Kd.R_reads' hR70).2.2
            refine w_loop (fun m_ G W_ => ∃ j : Nat, j + m_ = wh ∧ Below w68.heap.size w68 W_ ∧ G = [(0, .slice P0 ps.length pc), (13, .slice A66 (ps.take wh).length c67), (109, .int .i64 (j : Int)), (108, .int .i64 (wh : Int))]) wh [(0, .slice P0 ps.length pc), (13, .slice A66 (ps.take wh).length c67), (109, .int .i64 0), (108, .int .i64 (wh : Int))] ⟨0, by omega, Below.refl _ _, rfl⟩ ⟨rfl, rfl, rfl, rfl, trivial⟩ ?_
            rintro m_ G w_4 ⟨j, hjm, hB4_, rfl⟩
            have hs_w_4 := hB4_.size
            refine w_seq ?_
            refine w_region ?_
            refine rw_val (v := .bool (decide ((j : Int) < (wh : Int)))) (w' := w_4) rfl rfl rfl rfl (by simp [go_sem, sEv, sLook, nbeq, i64_w, -List.length_flatten]) ?_
            refine rw_end ?_
            refine w_seq ?_
            refine w_cond rfl rfl (fun cJ => ?_) (fun cJ => ?_)
            · refine w_skip ?_
              refine w_seq ?_
              refine w_block ?_
              refine w_seq ?_
              refine w_region ?_
              have l_ := of_decide_eq_true cJ
              obtain ⟨ad8, A8, c8, hA8_, hcell8_, hle8_, hC8_⟩ := at_L2 hRC_ (j : Int) (by omega) (by rw [List.length_take]; omega)
              rw [show ((j : Int)).toNat = j by omega] at hcell8_
              have er_ : rd_L2 (ps.take wh) (j : Int) = rd_L2 ps (j : Int) := by rw [rd_L2_at _ j (by rw [List.length_take]; omega), rd_L2_at ps j (by omega), List.getElem_take]
              rw [er_] at hcell8_ hC8_
              obtain ⟨ad9, A9, c9, hA9_, hcell9_, hle9_, hC9_⟩ := at_L2 hP (j : Int) (by omega) (by omega)
              rw [show ((j : Int)).toNat = j by omega] at hcell9_
              subst hA8_ hA9_
              refine rw_val (v := .int .i64 (j : Int)) (w' := w_4) rfl rfl rfl rfl rfl ?_
              refine rw_val (v := .int .i64 (j : Int)) (w' := w_4) rfl rfl rfl rfl rfl ?_
              refine rw_end ?_
              refine w_seq ?_
              refine w_draw (M := [0, 0, 3, 7, 15, 0, 0, 96, 224, 480, 1023]) (ss := [Is (.slice (some ad8) ((ps.take wh).length) c67), Is (.int .i64 (j : Int)), Is (.pointer (some (ad8.add j))), Is (.slice A8 ((rd_L2 ps (j : Int)).length) c8), Is (.string (strOfNums (rd_L2 ps (j : Int)))), Is (.slice (some ad9) ps.length pc), Is (.int .i64 (j : Int)), Is (.pointer (some (ad9.add j))), Is (.slice A9 ((rd_L2 ps (j : Int)).length) c9), Is (.string (strOfNums (rd_L2 ps (j : Int)))), Is (.bool false)]) rfl (by decide +kernel) ?_
              refine t_is (.slice (some ad8) ((ps.take wh).length) c67) rfl rfl rfl rfl (fun W_ hW_ F_ => rfl) ?_
              refine t_is (.int .i64 (j : Int)) rfl rfl rfl rfl (fun W_ hW_ F_ => rfl) ?_
              refine t_is (.pointer (some (ad8.add j))) rfl rfl rfl rfl (fun W_ hW_ F_ => (by simp [go_sem, sEv, sLook, nbeq, i64_w, -List.length_flatten, Try.underlying32]; omega)) ?_
              refine t_is (.slice A8 ((rd_L2 ps (j : Int)).length) c8) rfl rfl rfl rfl (fun W_ hW_ F_ => (by have e_ := cellOn hcell8_ (chain hB4_ (below_of_drew hW_)); simp [go_sem, sEv, sLook, nbeq, i64_w, -List.length_flatten, e_])) ?_
              refine t_is (.string (strOfNums (rd_L2 ps (j : Int)))) rfl rfl rfl rfl (fun W_ hW_ F_ => run_as (run_str_of (P := Try.prog) (e := 5) (by kernel_rfl) (by kernel_rfl) (by kernel_rfl) (Kd.C_below hC8_ (chain hB4_ (below_of_drew hW_))))) ?_
              refine t_is (.slice (some ad9) ps.length pc) rfl rfl rfl rfl (fun W_ hW_ F_ => rfl) ?_
              refine t_is (.int .i64 (j : Int)) rfl rfl rfl rfl (fun W_ hW_ F_ => rfl) ?_
              refine t_is (.pointer (some (ad9.add j))) rfl rfl rfl rfl (fun W_ hW_ F_ => (by simp [go_sem, sEv, sLook, nbeq, i64_w, -List.length_flatten, Try.underlying32]; omega)) ?_
              refine t_is (.slice A9 ((rd_L2 ps (j : Int)).length) c9) rfl rfl rfl rfl (fun W_ hW_ F_ => (by have e_ := cellOn hcell9_ (chain (chain (chain hBw_ hB71) hB4_) (below_of_drew hW_)); simp [go_sem, sEv, sLook, nbeq, i64_w, -List.length_flatten, e_])) ?_
              refine t_is (.string (strOfNums (rd_L2 ps (j : Int)))) rfl rfl rfl rfl (fun W_ hW_ F_ => run_as (run_str_of (P := Try.prog) (e := 5) (by kernel_rfl) (by kernel_rfl) (by kernel_rfl) (Kd.C_below hC9_ (chain (chain (chain hBw_ hB71) hB4_) (below_of_drew hW_))))) ?_
              refine t_is (.bool false) rfl rfl rfl rfl (fun W_ hW_ F_ => (run_bool (run_as (run_str_neq 9 _ _ _)) (by simp))) ?_
              refine t_end ?_
              intro w90 hb91_ F92
              have hb91 := below_of_drew hb91_
              have hs_w90 := hb91.size
              refine w_weaken (G' := [(0, .slice (some ad9) ps.length pc), (13, .slice (some ad8) ((ps.take wh).length) c67), (108, .int .i64 (wh : Int)), (109, .int .i64 (j : Int)), (122, .bool false)]) ⟨rfl, rfl, rfl, rfl, rfl, trivial⟩ ?_
              refine w_cond_f rfl rfl rfl ?_
              refine w_skip ?_
              refine w_blk ?_
              refine w_region ?_
              refine rw_val (v := .int .i64 ((j + 1 : Nat) : Int)) (w' := w90) rfl rfl rfl rfl (by simp [go_sem, sEv, sLook, nbeq, i64_w, -List.length_flatten]; have l_ := of_decide_eq_true cJ; exact wrap_id (by omega) (by omega)) ?_
              refine rw_val (v := .int .i64 ((j + 1 : Nat) : Int)) (w' := w90) rfl rfl rfl rfl rfl ?_
              refine rw_end ?_
              have l_ := of_decide_eq_true cJ
              exact w_back (m_ - 1) [(0, .slice (some ad9) ps.length pc), (13, .slice (some ad8) (ps.take wh).length c67), (109, .int .i64 ((j + 1 : Nat) : Int)), (108, .int .i64 (wh : Int))] (by omega) ⟨rfl, rfl, rfl, rfl, trivial⟩ ⟨j + 1, by omega, (chain hB4_ hb91), rfl⟩
            · refine w_exit rfl ?_
              refine w_seq ?_
              refine w_region ?_
              refine rw_val (v := .bool true) (w' := w_4) rfl rfl rfl rfl rfl ?_
              refine rw_end ?_
              refine w_ret (post_ret1 rfl rfl ?_)
              exact ⟨rfl, (chain (chain hBw_ hB71) hB4_)⟩
      · refine rw_on (c := decide ((wh : Int) < (ps.length : Int))) rfl rfl rfl (by first | (rw [cW]; rfl) | simp [cW]) ?_
        refine rw_val (v := .slice A6 n6 c6) (w' := w_) rfl rfl rfl rfl rfl ?_
        refine rw_on (c := decide ((wh : Int) < (ps.length : Int))) rfl rfl rfl (by first | (rw [cW]; rfl) | simp [cW]) ?_
        refine rw_val (v := .int .i64 (wh : Int)) (w' := w_) rfl rfl rfl rfl rfl ?_
        refine rw_on (c := decide ((wh : Int) < (ps.length : Int))) rfl rfl rfl (by first | (rw [cW]; rfl) | simp [cW]) ?_
        have z_ := of_decide_eq_true cW
        have hn6_ := ((hO6.on (Below.refl _ _))).len
        rw [en_len] at hn6_
        obtain ⟨ad93, hA94, hc95⟩ := Kd.at_int (Own.C (hO6.on (Below.refl _ _))) ((wh : Nat) : Int) (by omega) (by rw [en_len]; omega)
        rw [en_rd ps ps.length (wh) (by omega)] at hc95
        rw [show (((wh : Nat) : Int)).toNat = wh by omega] at hc95
        have hv_ : (Value.slice A6 n6 c6) = .slice (some ad93) ps.length c6 := by rw [hA94, hn6_]
        refine rw_val (v := .pointer (some (ad93.add (wh)))) (w' := w_) rfl rfl rfl rfl (by simp [go_sem, sEv, sLook, nbeq, i64_w, -List.length_flatten, Try.underlying23, hA94]; omega) ?_
        refine rw_on (c := decide ((wh : Int) < (ps.length : Int))) rfl rfl rfl (by first | (rw [cW]; rfl) | simp [cW]) ?_
        refine rw_val (v := .int .i64 ((ends ps (wh + 1) : Nat) : Int)) (w' := w_) rfl rfl rfl rfl (by simp [go_sem, sEv, sLook, nbeq, i64_w, -List.length_flatten, hc95]) ?_
        refine rw_on (c := decide ((wh : Int) < (ps.length : Int))) rfl rfl rfl (by first | (rw [cW]; rfl) | simp [cW]) ?_
        refine rw_val (v := .int .i64 (k : Int)) (w' := w_) rfl rfl rfl rfl rfl ?_
        refine rw_on (c := decide ((wh : Int) < (ps.length : Int))) rfl rfl rfl (by first | (rw [cW]; rfl) | simp [cW]) ?_
        refine rw_val (v := .bool (decide (((ends ps (wh + 1) : Nat) : Int) ≤ (k : Int)))) (w' := w_) rfl rfl rfl rfl (by simp [go_sem, sEv, sLook, nbeq, i64_w, -List.length_flatten]) ?_
        refine rw_val (v := .bool (decide (((ends ps (wh + 1) : Nat) : Int) ≤ (k : Int)))) (w' := w_) rfl rfl rfl rfl (by first | (simp [go_sem, sEv, sLook, nbeq, i64_w, -List.length_flatten, cW]; done) | (simp [go_sem, sEv, sLook, nbeq, i64_w, -List.length_flatten] <;> omega) | (simp [go_sem, sEv, sLook, nbeq, i64_w, -List.length_flatten]; intro h_; exact absurd (by omega) h_) | (rw [cW]; simp [go_sem, sEv, sLook, nbeq, i64_w, -List.length_flatten]; done)) ?_
        refine rw_end ?_
        refine w_weaken (G' := [(0, .slice P0 ps.length pc), (5, .slice A5 n5 c5), (6, .slice A6 n6 c6), (11, .int .i64 (k : Int)), (12, .int .i64 (wh : Int)), (72, .bool (decide (((ends ps (wh + 1) : Nat) : Int) ≤ (k : Int))))]) ⟨rfl, rfl, rfl, rfl, rfl, rfl, trivial⟩ ?_
        refine w_cond rfl rfl (fun cX => ?_) (fun cX => ?_)
        · refine w_skip ?_
          refine w_block ?_
          refine w_region ?_
          refine rw_val (v := .int .i64 (wh : Int)) (w' := w_) rfl rfl rfl rfl rfl ?_
          refine rw_val (v := .int .i64 ((wh + 1 : Nat) : Int)) (w' := w_) rfl rfl rfl rfl (by simp [go_sem, sEv, sLook, nbeq, i64_w, -List.length_flatten]; have l_ := of_decide_eq_true cW; exact wrap_id (by omega) (by omega)) ?_
          refine rw_val (v := .int .i64 ((wh + 1 : Nat) : Int)) (w' := w_) rfl rfl rfl rfl rfl ?_
          refine rw_end ?_
          refine w_blk ?_
          have l_ := of_decide_eq_true cW
          have x_ := of_decide_eq_true cX
          exact w_back (m_ - 1) [(0, .slice P0 ps.length pc), (5, .slice A5 n5 c5), (6, .slice A6 n6 c6), (11, .int .i64 (k : Int)), (12, .int .i64 ((wh + 1 : Nat) : Int))] (by omega) ⟨rfl, rfl, rfl, rfl, rfl, trivial⟩ ⟨wh + 1, by omega, by omega, rfl, rfl⟩
        · have hwx_ : wh < ps.length → k < ends ps (wh + 1) := fun h_ => by have x_ := of_decide_eq_false cX; omega
          refine w_exit rfl ?_
          refine w_seq ?_
          refine w_region ?_
          refine rw_val (v := .slice A5 n5 c5) (w' := w_) rfl rfl rfl rfl rfl ?_
          refine rw_val (v := .int .i64 (k : Int)) (w' := w_) rfl rfl rfl rfl rfl ?_
          have hP96 := (to_C (Own.C hO5) k (by omega))
          have hc97 : ((FC ps).take k).length ≤ c5 := by have q_ := hO5.cap; have q2_ : n5 = (FC ps).length := hO5.len; simp only [List.length_take, List.length_drop]; omega
          refine rw_val (v := .slice A5 (((FC ps).take k).length) c5) (w' := w_) rfl rfl rfl rfl (run_as (run_to (e := 5) (by kernel_rfl) (fun _ => by kernel_rfl) k _ (by first | rfl | (simp; done) | omega) hO5.len (by omega) hO5.cap _)) ?_
          have hFb_ : Bytes (FC ps) := fc_bytes ps hbs
          refine rw_call rfl rfl rfl rfl (f := 26) (args := #[.slice A5 (((FC ps).take k).length) c5]) (by simp [go_sem, sEv, sLook, nbeq, i64_w, -List.length_flatten]) (split_calls w_ A5 c5 ((FC ps).take k) (Kd.C_below hP96 (Below.refl _ _)) hc97 (hFb_.take _) (by simp only [List.length_take]; omega)) ?_
          rintro e_ w102 ⟨out98, n99, A100, c101, rfl, hS103, hR104, hB105⟩
          refine ⟨_, rfl, ?_⟩
          obtain ⟨wh2, q1_, q2_, q3_, q4_, q5_⟩ := split_frames ps hle2_ k _ _ hS103
          have q6_ : wh2 = wh := ends_uniq ps k wh2 wh q1_ (by omega) q4_ q5_ hwk hwx_
          rw [q6_] at q2_ q3_
          subst q2_ q3_
          have hs_w102 := hB105.size
          refine rw_val (v := .tuple #[.slice A100 ((ps.take wh).length) c101, .int .i64 ((ends ps wh : Nat) : Int)]) (w' := w102) rfl rfl rfl rfl rfl ?_
          refine rw_val (v := .slice A100 ((ps.take wh).length) c101) (w' := w102) rfl rfl rfl rfl (by simp [go_sem, sEv, sLook, nbeq, i64_w, -List.length_flatten]) ?_
          refine rw_val (v := .int .i64 ((ends ps wh : Nat) : Int)) (w' := w102) rfl rfl rfl rfl (by simp [go_sem, sEv, sLook, nbeq, i64_w, -List.length_flatten]) ?_
          refine rw_val (v := .slice A100 ((ps.take wh).length) c101) (w' := w102) rfl rfl rfl rfl rfl ?_
          refine rw_val (v := .int .i64 ((ends ps wh : Nat) : Int)) (w' := w102) rfl rfl rfl rfl rfl ?_
          refine rw_end ?_
          refine w_weaken (G' := [(0, .slice P0 ps.length pc), (6, .slice A6 n6 c6), (12, .int .i64 (wh : Int)), (13, .slice A100 ((ps.take wh).length) c101), (14, .int .i64 ((ends ps wh : Nat) : Int))]) ⟨rfl, rfl, rfl, rfl, rfl, trivial⟩ ?_
          refine w_seq ?_
          refine w_seq ?_
          refine w_region ?_
          refine rw_val (v := .slice A100 ((ps.take wh).length) c101) (w' := w102) rfl rfl rfl rfl rfl ?_
          refine rw_val (v := .int .i64 (wh : Int)) (w' := w102) rfl rfl rfl rfl (by simp [go_sem, sEv, sLook, nbeq, i64_w, -List.length_flatten]; omega) ?_
          refine rw_val (v := .int .i64 (wh : Int)) (w' := w102) rfl rfl rfl rfl rfl ?_
          refine rw_val (v := .bool false) (w' := w102) rfl rfl rfl rfl (by simp [go_sem, sEv, sLook, nbeq, i64_w, -List.length_flatten]) ?_
          refine rw_val (v := .bool false) (w' := w102) rfl rfl rfl rfl rfl ?_
          refine rw_on (c := false) rfl rfl rfl rfl ?_
          refine rw_val (v := .int .i64 (wh : Int)) (w' := w102) rfl rfl rfl rfl rfl ?_
          refine rw_on (c := false) rfl rfl rfl rfl ?_
          refine rw_val (v := .bool ((wh : Int) == 0)) (w' := w102) rfl rfl rfl rfl (by simp [go_sem, sEv, sLook, nbeq, i64_w, -List.length_flatten]) ?_
          refine rw_on (c := false) rfl rfl rfl rfl ?_
          refine rw_val (v := .bool ((wh : Int) == 0)) (w' := w102) rfl rfl rfl rfl rfl ?_
          rcases bcase ((wh : Int) == 0) with cQ | cQ
          · refine rw_off (c := ((wh : Int) == 0)) rfl rfl rfl (by first | (rw [cQ]; rfl) | simp [cQ]) rfl rfl ?_
            refine rw_off (c := ((wh : Int) == 0)) rfl rfl rfl (by first | (rw [cQ]; rfl) | simp [cQ]) rfl rfl ?_
            refine rw_on (c := false) rfl rfl rfl rfl ?_
            refine rw_val (v := .bool false) (w' := w102) rfl rfl rfl rfl (by first | (simp [go_sem, sEv, sLook, nbeq, i64_w, -List.length_flatten, cQ]; done) | (simp [go_sem, sEv, sLook, nbeq, i64_w, -List.length_flatten] <;> omega) | (simp [go_sem, sEv, sLook, nbeq, i64_w, -List.length_flatten]; intro h_; exact absurd (by omega) h_) | (rw [cQ]; simp [go_sem, sEv, sLook, nbeq, i64_w, -List.length_flatten]; done)) ?_
            refine rw_val (v := .bool false) (w' := w102) rfl rfl rfl rfl (by simp [go_sem, sEv, sLook, nbeq, i64_w, -List.length_flatten]) ?_
            refine rw_val (v := .bool false) (w' := w102) rfl rfl rfl rfl rfl ?_
            refine rw_on (c := false) rfl rfl rfl rfl ?_
            refine rw_val (v := .int .i64 (wh : Int)) (w' := w102) rfl rfl rfl rfl rfl ?_
            refine rw_on (c := false) rfl rfl rfl rfl ?_
            refine rw_val (v := .bool (decide (0 < (wh : Int)))) (w' := w102) rfl rfl rfl rfl (by simp [go_sem, sEv, sLook, nbeq, i64_w, -List.length_flatten]) ?_
            refine rw_on (c := false) rfl rfl rfl rfl ?_
            refine rw_val (v := .bool (decide (0 < (wh : Int)))) (w' := w102) rfl rfl rfl rfl rfl ?_
            rcases bcase (decide (0 < (wh : Int))) with cZ | cZ
            · refine rw_off (c := decide (0 < (wh : Int))) rfl rfl rfl (by first | (rw [cZ]; rfl) | simp [cZ]) rfl rfl ?_
              refine rw_off (c := decide (0 < (wh : Int))) rfl rfl rfl (by first | (rw [cZ]; rfl) | simp [cZ]) rfl rfl ?_
              refine rw_off (c := decide (0 < (wh : Int))) rfl rfl rfl (by first | (rw [cZ]; rfl) | simp [cZ]) rfl rfl ?_
              refine rw_off (c := decide (0 < (wh : Int))) rfl rfl rfl (by first | (rw [cZ]; rfl) | simp [cZ]) rfl rfl ?_
              refine rw_off (c := decide (0 < (wh : Int))) rfl rfl rfl (by first | (rw [cZ]; rfl) | simp [cZ]) rfl rfl ?_
              refine rw_off (c := decide (0 < (wh : Int))) rfl rfl rfl (by first | (rw [cZ]; rfl) | simp [cZ]) rfl rfl ?_
              refine rw_off (c := decide (0 < (wh : Int))) rfl rfl rfl (by first | (rw [cZ]; rfl) | simp [cZ]) rfl rfl ?_
              refine rw_on (c := false) rfl rfl rfl rfl ?_
              refine rw_val (v := .bool false) (w' := w102) rfl rfl rfl rfl (by first | (simp [go_sem, sEv, sLook, nbeq, i64_w, -List.length_flatten, cZ]; done) | (simp [go_sem, sEv, sLook, nbeq, i64_w, -List.length_flatten] <;> omega) | (simp [go_sem, sEv, sLook, nbeq, i64_w, -List.length_flatten]; intro h_; exact absurd (by omega) h_) | (rw [cZ]; simp [go_sem, sEv, sLook, nbeq, i64_w, -List.length_flatten]; done)) ?_
              refine rw_val (v := .bool false) (w' := w102) rfl rfl rfl rfl (by simp [go_sem, sEv, sLook, nbeq, i64_w, -List.length_flatten]) ?_
              refine rw_end ?_
              refine w_weaken (G' := [(0, .slice P0 ps.length pc), (13, .slice A100 ((ps.take wh).length) c101), (106, .bool false)]) ⟨rfl, rfl, rfl, trivial⟩ ?_
              refine w_cond_f rfl rfl rfl ?_
              refine w_skip ?_
              refine w_seq ?_
              refine w_seq ?_
              refine w_region ?_
              refine rw_val (v := .slice A100 ((ps.take wh).length) c101) (w' := w102) rfl rfl rfl rfl rfl ?_
              refine rw_val (v := .int .i64 (wh : Int)) (w' := w102) rfl rfl rfl rfl (by simp [go_sem, sEv, sLook, nbeq, i64_w, -List.length_flatten]; omega) ?_
              refine rw_val (v := .int .i64 0) (w' := w102) rfl rfl rfl rfl rfl ?_
              refine rw_end ?_
              refine w_block ?_
              have hRC_ := (Kd.R_reads' hR104).2.2
              refine w_loop (fun m_ G W_ => ∃ j : Nat, j + m_ = wh ∧ Below w102.heap.size w102 W_ ∧ G = [(0, .slice P0 ps.length pc), (13, .slice A100 (ps.take wh).length c101), (109, .int .i64 (j : Int)), (108, .int .i64 (wh : Int))]) wh [(0, .slice P0 ps.length pc), (13, .slice A100 (ps.take wh).length c101), (109, .int .i64 0), (108, .int .i64 (wh : Int))] ⟨0, by omega, Below.refl _ _, rfl⟩ ⟨rfl, rfl, rfl, rfl, trivial⟩ ?_
              rintro m_ G w_4 ⟨j, hjm, hB4_, rfl⟩
              have hs_w_4 := hB4_.size
              refine w_seq ?_
              refine w_region ?_
              refine rw_val (v := .bool (decide ((j : Int) < (wh : Int)))) (w' := w_4) rfl rfl rfl rfl (by simp [go_sem, sEv, sLook, nbeq, i64_w, -List.length_flatten]) ?_
              refine rw_end ?_
              refine w_seq ?_
              refine w_cond rfl rfl (fun cJ => ?_) (fun cJ => ?_)
              · refine w_skip ?_
                refine w_seq ?_
                refine w_block ?_
                refine w_seq ?_
                refine w_region ?_
                have l_ := of_decide_eq_true cJ
                obtain ⟨ad8, A8, c8, hA8_, hcell8_, hle8_, hC8_⟩ := at_L2 hRC_ (j : Int) (by omega) (by rw [List.length_take]; omega)
                rw [show ((j : Int)).toNat = j by omega] at hcell8_
                have er_ : rd_L2 (ps.take wh) (j : Int) = rd_L2 ps (j : Int) := by rw [rd_L2_at _ j (by rw [List.length_take]; omega), rd_L2_at ps j (by omega), List.getElem_take]
                rw [er_] at hcell8_ hC8_
                obtain ⟨ad9, A9, c9, hA9_, hcell9_, hle9_, hC9_⟩ := at_L2 hP (j : Int) (by omega) (by omega)
                rw [show ((j : Int)).toNat = j by omega] at hcell9_
                subst hA8_ hA9_
                refine rw_val (v := .int .i64 (j : Int)) (w' := w_4) rfl rfl rfl rfl rfl ?_
                refine rw_val (v := .int .i64 (j : Int)) (w' := w_4) rfl rfl rfl rfl rfl ?_
                refine rw_end ?_
                refine w_seq ?_
                refine w_draw (M := [0, 0, 3, 7, 15, 0, 0, 96, 224, 480, 1023]) (ss := [Is (.slice (some ad8) ((ps.take wh).length) c101), Is (.int .i64 (j : Int)), Is (.pointer (some (ad8.add j))), Is (.slice A8 ((rd_L2 ps (j : Int)).length) c8), Is (.string (strOfNums (rd_L2 ps (j : Int)))), Is (.slice (some ad9) ps.length pc), Is (.int .i64 (j : Int)), Is (.pointer (some (ad9.add j))), Is (.slice A9 ((rd_L2 ps (j : Int)).length) c9), Is (.string (strOfNums (rd_L2 ps (j : Int)))), Is (.bool false)]) rfl (by decide +kernel) ?_
                refine t_is (.slice (some ad8) ((ps.take wh).length) c101) rfl rfl rfl rfl (fun W_ hW_ F_ => rfl) ?_
                refine t_is (.int .i64 (j : Int)) rfl rfl rfl rfl (fun W_ hW_ F_ => rfl) ?_
                refine t_is (.pointer (some (ad8.add j))) rfl rfl rfl rfl (fun W_ hW_ F_ => (by simp [go_sem, sEv, sLook, nbeq, i64_w, -List.length_flatten, Try.underlying32]; omega)) ?_
                refine t_is (.slice A8 ((rd_L2 ps (j : Int)).length) c8) rfl rfl rfl rfl (fun W_ hW_ F_ => (by have e_ := cellOn hcell8_ (chain hB4_ (below_of_drew hW_)); simp [go_sem, sEv, sLook, nbeq, i64_w, -List.length_flatten, e_])) ?_
                refine t_is (.string (strOfNums (rd_L2 ps (j : Int)))) rfl rfl rfl rfl (fun W_ hW_ F_ => run_as (run_str_of (P := Try.prog) (e := 5) (by kernel_rfl) (by kernel_rfl) (by kernel_rfl) (Kd.C_below hC8_ (chain hB4_ (below_of_drew hW_))))) ?_
                refine t_is (.slice (some ad9) ps.length pc) rfl rfl rfl rfl (fun W_ hW_ F_ => rfl) ?_
                refine t_is (.int .i64 (j : Int)) rfl rfl rfl rfl (fun W_ hW_ F_ => rfl) ?_
                refine t_is (.pointer (some (ad9.add j))) rfl rfl rfl rfl (fun W_ hW_ F_ => (by simp [go_sem, sEv, sLook, nbeq, i64_w, -List.length_flatten, Try.underlying32]; omega)) ?_
                refine t_is (.slice A9 ((rd_L2 ps (j : Int)).length) c9) rfl rfl rfl rfl (fun W_ hW_ F_ => (by have e_ := cellOn hcell9_ (chain (chain (chain hBw_ hB105) hB4_) (below_of_drew hW_)); simp [go_sem, sEv, sLook, nbeq, i64_w, -List.length_flatten, e_])) ?_
                refine t_is (.string (strOfNums (rd_L2 ps (j : Int)))) rfl rfl rfl rfl (fun W_ hW_ F_ => run_as (run_str_of (P := Try.prog) (e := 5) (by kernel_rfl) (by kernel_rfl) (by kernel_rfl) (Kd.C_below hC9_ (chain (chain (chain hBw_ hB105) hB4_) (below_of_drew hW_))))) ?_
                refine t_is (.bool false) rfl rfl rfl rfl (fun W_ hW_ F_ => (run_bool (run_as (run_str_neq 9 _ _ _)) (by simp))) ?_
                refine t_end ?_
                intro w106 hb107_ F108
                have hb107 := below_of_drew hb107_
                have hs_w106 := hb107.size
                refine w_weaken (G' := [(0, .slice (some ad9) ps.length pc), (13, .slice (some ad8) ((ps.take wh).length) c101), (108, .int .i64 (wh : Int)), (109, .int .i64 (j : Int)), (122, .bool false)]) ⟨rfl, rfl, rfl, rfl, rfl, trivial⟩ ?_
                refine w_cond_f rfl rfl rfl ?_
                refine w_skip ?_
                refine w_blk ?_
                refine w_region ?_
                refine rw_val (v := .int .i64 ((j + 1 : Nat) : Int)) (w' := w106) rfl rfl rfl rfl (by simp [go_sem, sEv, sLook, nbeq, i64_w, -List.length_flatten]; have l_ := of_decide_eq_true cJ; exact wrap_id (by omega) (by omega)) ?_
                refine rw_val (v := .int .i64 ((j + 1 : Nat) : Int)) (w' := w106) rfl rfl rfl rfl rfl ?_
                refine rw_end ?_
                have l_ := of_decide_eq_true cJ
                exact w_back (m_ - 1) [(0, .slice (some ad9) ps.length pc), (13, .slice (some ad8) (ps.take wh).length c101), (109, .int .i64 ((j + 1 : Nat) : Int)), (108, .int .i64 (wh : Int))] (by omega) ⟨rfl, rfl, rfl, rfl, trivial⟩ ⟨j + 1, by omega, (chain hB4_ hb107), rfl⟩
              · refine w_exit rfl ?_
                refine w_seq ?_
                refine w_region ?_
                refine rw_val (v := .bool true) (w' := w_4) rfl rfl rfl rfl rfl ?_
                refine rw_end ?_
                refine w_ret (post_ret1 rfl rfl ?_)
                exact ⟨rfl, (chain (chain hBw_ hB105) hB4_)⟩
            · refine rw_on (c := decide (0 < (wh : Int))) rfl rfl rfl (by first | (rw [cZ]; rfl) | simp [cZ]) ?_
              refine rw_val (v := .int .i64 ((ends ps wh : Nat) : Int)) (w' := w102) rfl rfl rfl rfl rfl ?_
              refine rw_on (c := decide (0 < (wh : Int))) rfl rfl rfl (by first | (rw [cZ]; rfl) | simp [cZ]) ?_
              refine rw_val (v := .slice A6 n6 c6) (w' := w102) rfl rfl rfl rfl rfl ?_
              refine rw_on (c := decide (0 < (wh : Int))) rfl rfl rfl (by first | (rw [cZ]; rfl) | simp [cZ]) ?_
              refine rw_val (v := .int .i64 (wh : Int)) (w' := w102) rfl rfl rfl rfl rfl ?_
              refine rw_on (c := decide (0 < (wh : Int))) rfl rfl rfl (by first | (rw [cZ]; rfl) | simp [cZ]) ?_
              refine rw_val (v := .int .i64 ((wh - 1 : Nat) : Int)) (w' := w102) rfl rfl rfl rfl (by simp [go_sem, sEv, sLook, nbeq, i64_w, -List.length_flatten]; have z_ := of_decide_eq_true cZ; rw [wrap_id (by omega) (by omega)]; omega) ?_
              refine rw_on (c := decide (0 < (wh : Int))) rfl rfl rfl (by first | (rw [cZ]; rfl) | simp [cZ]) ?_
              have z_ := of_decide_eq_true cZ
              have hn6_ := ((hO6.on hB105)).len
              rw [en_len] at hn6_
              obtain ⟨ad109, hA110, hc111⟩ := Kd.at_int (Own.C (hO6.on hB105)) ((wh - 1 : Nat) : Int) (by omega) (by rw [en_len]; omega)
              rw [en_rd ps ps.length (wh - 1) (by omega)] at hc111
              rw [show (((wh - 1 : Nat) : Int)).toNat = wh - 1 by omega] at hc111
              have hv_ : (Value.slice A6 n6 c6) = .slice (some ad109) ps.length c6 := by rw [hA110, hn6_]
              refine rw_val (v := .pointer (some (ad109.add (wh - 1)))) (w' := w102) rfl rfl rfl rfl (by simp [go_sem, sEv, sLook, nbeq, i64_w, -List.length_flatten, Try.underlying23, hA110]; omega) ?_
              refine rw_on (c := decide (0 < (wh : Int))) rfl rfl rfl (by first | (rw [cZ]; rfl) | simp [cZ]) ?_
              refine rw_val (v := .int .i64 ((ends ps ((wh - 1) + 1) : Nat) : Int)) (w' := w102) rfl rfl rfl rfl (by simp [go_sem, sEv, sLook, nbeq, i64_w, -List.length_flatten, hc111]) ?_
              refine rw_on (c := decide (0 < (wh : Int))) rfl rfl rfl (by first | (rw [cZ]; rfl) | simp [cZ]) ?_
              refine rw_val (v := .bool (((ends ps wh : Nat) : Int) != ((ends ps ((wh - 1) + 1) : Nat) : Int))) (w' := w102) rfl rfl rfl rfl (by simp [go_sem, sEv, sLook, nbeq, i64_w, -List.length_flatten]) ?_
              refine rw_on (c := false) rfl rfl rfl rfl ?_
              refine rw_val (v := .bool (((ends ps wh : Nat) : Int) != ((ends ps ((wh - 1) + 1) : Nat) : Int))) (w' := w102) rfl rfl rfl rfl (by first | (simp [go_sem, sEv, sLook, nbeq, i64_w, -List.length_flatten, cZ]; done) | (simp [go_sem, sEv, sLook, nbeq, i64_w, -List.length_flatten] <;> omega) | (simp [go_sem, sEv, sLook, nbeq, i64_w, -List.length_flatten]; intro h_; exact absurd (by omega) h_) | (rw [cZ]; simp [go_sem, sEv, sLook, nbeq, i64_w, -List.length_flatten]; done)) ?_
              refine rw_val (v := .bool (((ends ps wh : Nat) : Int) != ((ends ps ((wh - 1) + 1) : Nat) : Int))) (w' := w102) rfl rfl rfl rfl (by simp [go_sem, sEv, sLook, nbeq, i64_w, -List.length_flatten]) ?_
              refine rw_end ?_
              refine w_weaken (G' := [(0, .slice P0 ps.length pc), (13, .slice A100 ((ps.take wh).length) c101), (106, .bool (((ends ps wh : Nat) : Int) != ((ends ps ((wh - 1) + 1) : Nat) : Int)))]) ⟨rfl, rfl, rfl, trivial⟩ ?_
              have hq112 : (((ends ps wh : Nat) : Int) != ((ends ps ((wh - 1) + 1) : Nat) : Int)) = false := by have z_ := of_decide_eq_true cZ; rw [show wh - 1 + 1 = wh by omega]; simp
              refine w_cond_f rfl rfl hq112 ?_
              refine w_skip ?_
              refine w_seq ?_
              refine w_seq ?_
              refine w_region ?_
              refine rw_val (v := .slice A100 ((ps.take wh).length) c101) (w' := w102) rfl rfl rfl rfl rfl ?_
              refine rw_val (v := .int .i64 (wh : Int)) (w' := w102) rfl rfl rfl rfl (by simp [go_sem, sEv, sLook, nbeq, i64_w, -List.length_flatten]; omega) ?_
              refine rw_val (v := .int .i64 0) (w' := w102) rfl rfl rfl rfl rfl ?_
              refine rw_end ?_
              refine w_block ?_
              have hRC_ := (Kd.R_reads' hR104).2.2
              refine w_loop (fun m_ G W_ => ∃ j : Nat, j + m_ = wh ∧ Below w102.heap.size w102 W_ ∧ G = [(0, .slice P0 ps.length pc), (13, .slice A100 (ps.take wh).length c101), (109, .int .i64 (j : Int)), (108, .int .i64 (wh : Int))]) wh [(0, .slice P0 ps.length pc), (13, .slice A100 (ps.take wh).length c101), (109, .int .i64 0), (108, .int .i64 (wh : Int))] ⟨0, by omega, Below.refl _ _, rfl⟩ ⟨rfl, rfl, rfl, rfl, trivial⟩ ?_
              rintro m_ G w_4 ⟨j, hjm, hB4_, rfl⟩
              have hs_w_4 := hB4_.size
              refine w_seq ?_
              refine w_region ?_
              refine rw_val (v := .bool (decide ((j : Int) < (wh : Int)))) (w' := w_4) rfl rfl rfl rfl (by simp [go_sem, sEv, sLook, nbeq, i64_w, -List.length_flatten]) ?_
              refine rw_end ?_
              refine w_seq ?_
              refine w_cond rfl rfl (fun cJ => ?_) (fun cJ => ?_)
              · refine w_skip ?_
                refine w_seq ?_
                refine w_block ?_
                refine w_seq ?_
                refine w_region ?_
                have l_ := of_decide_eq_true cJ
                obtain ⟨ad8, A8, c8, hA8_, hcell8_, hle8_, hC8_⟩ := at_L2 hRC_ (j : Int) (by omega) (by rw [List.length_take]; omega)
                rw [show ((j : Int)).toNat = j by omega] at hcell8_
                have er_ : rd_L2 (ps.take wh) (j : Int) = rd_L2 ps (j : Int) := by rw [rd_L2_at _ j (by rw [List.length_take]; omega), rd_L2_at ps j (by omega), List.getElem_take]
                rw [er_] at hcell8_ hC8_
                obtain ⟨ad9, A9, c9, hA9_, hcell9_, hle9_, hC9_⟩ := at_L2 hP (j : Int) (by omega) (by omega)
                rw [show ((j : Int)).toNat = j by omega] at hcell9_
                subst hA8_ hA9_
                refine rw_val (v := .int .i64 (j : Int)) (w' := w_4) rfl rfl rfl rfl rfl ?_
                refine rw_val (v := .int .i64 (j : Int)) (w' := w_4) rfl rfl rfl rfl rfl ?_
                refine rw_end ?_
                refine w_seq ?_
                refine w_draw (M := [0, 0, 3, 7, 15, 0, 0, 96, 224, 480, 1023]) (ss := [Is (.slice (some ad8) ((ps.take wh).length) c101), Is (.int .i64 (j : Int)), Is (.pointer (some (ad8.add j))), Is (.slice A8 ((rd_L2 ps (j : Int)).length) c8), Is (.string (strOfNums (rd_L2 ps (j : Int)))), Is (.slice (some ad9) ps.length pc), Is (.int .i64 (j : Int)), Is (.pointer (some (ad9.add j))), Is (.slice A9 ((rd_L2 ps (j : Int)).length) c9), Is (.string (strOfNums (rd_L2 ps (j : Int)))), Is (.bool false)]) rfl (by decide +kernel) ?_
                refine t_is (.slice (some ad8) ((ps.take wh).length) c101) rfl rfl rfl rfl (fun W_ hW_ F_ => rfl) ?_
                refine t_is (.int .i64 (j : Int)) rfl rfl rfl rfl (fun W_ hW_ F_ => rfl) ?_
                refine t_is (.pointer (some (ad8.add j))) rfl rfl rfl rfl (fun W_ hW_ F_ => (by simp [go_sem, sEv, sLook, nbeq, i64_w, -List.length_flatten, Try.underlying32]; omega)) ?_
                refine t_is (.slice A8 ((rd_L2 ps (j : Int)).length) c8) rfl rfl rfl rfl (fun W_ hW_ F_ => (by have e_ := cellOn hcell8_ (chain hB4_ (below_of_drew hW_)); simp [go_sem, sEv, sLook, nbeq, i64_w, -List.length_flatten, e_])) ?_
                refine t_is (.string (strOfNums (rd_L2 ps (j : Int)))) rfl rfl rfl rfl (fun W_ hW_ F_ => run_as (run_str_of (P := Try.prog) (e := 5) (by kernel_rfl) (by kernel_rfl) (by kernel_rfl) (Kd.C_below hC8_ (chain hB4_ (below_of_drew hW_))))) ?_
                refine t_is (.slice (some ad9) ps.length pc) rfl rfl rfl rfl (fun W_ hW_ F_ => rfl) ?_
                refine t_is (.int .i64 (j : Int)) rfl rfl rfl rfl (fun W_ hW_ F_ => rfl) ?_
                refine t_is (.pointer (some (ad9.add j))) rfl rfl rfl rfl (fun W_ hW_ F_ => (by simp [go_sem, sEv, sLook, nbeq, i64_w, -List.length_flatten, Try.underlying32]; omega)) ?_
                refine t_is (.slice A9 ((rd_L2 ps (j : Int)).length) c9) rfl rfl rfl rfl (fun W_ hW_ F_ => (by have e_ := cellOn hcell9_ (chain (chain (chain hBw_ hB105) hB4_) (below_of_drew hW_)); simp [go_sem, sEv, sLook, nbeq, i64_w, -List.length_flatten, e_])) ?_
                refine t_is (.string (strOfNums (rd_L2 ps (j : Int)))) rfl rfl rfl rfl (fun W_ hW_ F_ => run_as (run_str_of (P := Try.prog) (e := 5) (by kernel_rfl) (by kernel_rfl) (by kernel_rfl) (Kd.C_below hC9_ (chain (chain (chain hBw_ hB105) hB4_) (below_of_drew hW_))))) ?_
                refine t_is (.bool false) rfl rfl rfl rfl (fun W_ hW_ F_ => (run_bool (run_as (run_str_neq 9 _ _ _)) (by simp))) ?_
                refine t_end ?_
                intro w113 hb114_ F115
                have hb114 := below_of_drew hb114_
                have hs_w113 := hb114.size
                refine w_weaken (G' := [(0, .slice (some ad9) ps.length pc), (13, .slice (some ad8) ((ps.take wh).length) c101), (108, .int .i64 (wh : Int)), (109, .int .i64 (j : Int)), (122, .bool false)]) ⟨rfl, rfl, rfl, rfl, rfl, trivial⟩ ?_
                refine w_cond_f rfl rfl rfl ?_
                refine w_skip ?_
                refine w_blk ?_
                refine w_region ?_
                refine rw_val (v := .int .i64 ((j + 1 : Nat) : Int)) (w' := w113) rfl rfl rfl rfl (by simp [go_sem, sEv, sLook, nbeq, i64_w, -List.length_flatten]; have l_ := of_decide_eq_true cJ; exact wrap_id (by omega) (by omega)) ?_
                refine rw_val (v := .int .i64 ((j + 1 : Nat) : Int)) (w' := w113) rfl rfl rfl rfl rfl ?_
                refine rw_end ?_
                have l_ := of_decide_eq_true cJ
                exact w_back (m_ - 1) [(0, .slice (some ad9) ps.length pc), (13, .slice (some ad8) (ps.take wh).length c101), (109, .int .i64 ((j + 1 : Nat) : Int)), (108, .int .i64 (wh : Int))] (by omega) ⟨rfl, rfl, rfl, rfl, trivial⟩ ⟨j + 1, by omega, (chain hB4_ hb114), rfl⟩
              · refine w_exit rfl ?_
                refine w_seq ?_
                refine w_region ?_
                refine rw_val (v := .bool true) (w' := w_4) rfl rfl rfl rfl rfl ?_
                refine rw_end ?_
                refine w_ret (post_ret1 rfl rfl ?_)
                exact ⟨rfl, (chain (chain hBw_ hB105) hB4_)⟩
          · refine rw_on (c := ((wh : Int) == 0)) rfl rfl rfl (by first | (rw [cQ]; rfl) | simp [cQ]) ?_
            refine rw_val (v := .int .i64 ((ends ps wh : Nat) : Int)) (w' := w102) rfl rfl rfl rfl rfl ?_
            refine rw_on (c := ((wh : Int) == 0)) rfl rfl rfl (by first | (rw [cQ]; rfl) | simp [cQ]) ?_
            refine rw_val (v := .bool (((ends ps wh : Nat) : Int) != 0)) (w' := w102) rfl rfl rfl rfl (by simp [go_sem, sEv, sLook, nbeq, i64_w, -List.length_flatten]) ?_
            refine rw_on (c := false) rfl rfl rfl rfl ?_
            refine rw_val (v := .bool (((ends ps wh : Nat) : Int) != 0)) (w' := w102) rfl rfl rfl rfl (by first | (simp [go_sem, sEv, sLook, nbeq, i64_w, -List.length_flatten, cQ]; done) | (simp [go_sem, sEv, sLook, nbeq, i64_w, -List.length_flatten] <;> omega) | (simp [go_sem, sEv, sLook, nbeq, i64_w, -List.length_flatten]; intro h_; exact absurd (by omega) h_) | (rw [cQ]; simp [go_sem, sEv, sLook, nbeq, i64_w, -List.length_flatten]; done)) ?_
            refine rw_val (v := .bool (((ends ps wh : Nat) : Int) != 0)) (w' := w102) rfl rfl rfl rfl (by simp [go_sem, sEv, sLook, nbeq, i64_w, -List.length_flatten]) ?_
            refine rw_val (v := .bool (((ends ps wh : Nat) : Int) != 0)) (w' := w102) rfl rfl rfl rfl rfl ?_
            have hq116 : (((ends ps wh : Nat) : Int) != 0) = false := by have q_ : wh = 0 := (by simpa using cQ); rw [q_, ends_zero]; rfl
            refine rw_on (c := (((ends ps wh : Nat) : Int) != 0)) rfl rfl rfl (by first | (rw [hq116]; rfl) | simp [hq116]) ?_
            refine rw_val (v := .int .i64 (wh : Int)) (w' := w102) rfl rfl rfl rfl rfl ?_
            refine rw_on (c := (((ends ps wh : Nat) : Int) != 0)) rfl rfl rfl (by first | (rw [hq116]; rfl) | simp [hq116]) ?_
            refine rw_val (v := .bool (decide (0 < (wh : Int)))) (w' := w102) rfl rfl rfl rfl (by simp [go_sem, sEv, sLook, nbeq, i64_w, -List.length_flatten]) ?_
            refine rw_on (c := (((ends ps wh : Nat) : Int) != 0)) rfl rfl rfl (by first | (rw [hq116]; rfl) | simp [hq116]) ?_
            refine rw_val (v := .bool (decide (0 < (wh : Int)))) (w' := w102) rfl rfl rfl rfl rfl ?_
            rcases bcase (decide (0 < (wh : Int))) with cZ | cZ
            · refine rw_off (c := decide (0 < (wh : Int))) rfl rfl rfl (by first | (rw [cZ]; rfl) | simp [cZ]) rfl rfl ?_
              refine rw_off (c := decide (0 < (wh : Int))) rfl rfl rfl (by first | (rw [cZ]; rfl) | simp [cZ]) rfl rfl ?_
              refine rw_off (c := decide (0 < (wh : Int))) rfl rfl rfl (by first | (rw [cZ]; rfl) | simp [cZ]) rfl rfl ?_
              refine rw_off (c := decide (0 < (wh : Int))) rfl rfl rfl (by first | (rw [cZ]; rfl) | simp [cZ]) rfl rfl ?_
              refine rw_off (c := decide (0 < (wh : Int))) rfl rfl rfl (by first | (rw [cZ]; rfl) | simp [cZ]) rfl rfl ?_
              refine rw_off (c := decide (0 < (wh : Int))) rfl rfl rfl (by first | (rw [cZ]; rfl) | simp [cZ]) rfl rfl ?_
              refine rw_off (c := decide (0 < (wh : Int))) rfl rfl rfl (by first | (rw [cZ]; rfl) | simp [cZ]) rfl rfl ?_
              refine rw_on (c := (((ends ps wh : Nat) : Int) != 0)) rfl rfl rfl (by first | (rw [hq116]; rfl) | simp [hq116]) ?_
              refine rw_val (v := .bool false) (w' := w102) rfl rfl rfl rfl (by first | (simp [go_sem, sEv, sLook, nbeq, i64_w, -List.length_flatten, cZ]; done) | (simp [go_sem, sEv, sLook, nbeq, i64_w, -List.length_flatten] <;> omega) | (simp [go_sem, sEv, sLook, nbeq, i64_w, -List.length_flatten]; intro h_; exact absurd (by omega) h_) | (rw [cZ]; simp [go_sem, sEv, sLook, nbeq, i64_w, -List.length_flatten]; done)) ?_
              refine rw_val (v := .bool false) (w' := w102) rfl rfl rfl rfl (by first | (simp [go_sem, sEv, sLook, nbeq, i64_w, -List.length_flatten, hq116]; done) | (simp [go_sem, sEv, sLook, nbeq, i64_w, -List.length_flatten] <;> omega) | (simp [go_sem, sEv, sLook, nbeq, i64_w, -List.length_flatten]; intro h_; exact absurd (by omega) h_) | (rw [hq116]; simp [go_sem, sEv, sLook, nbeq, i64_w, -List.length_flatten]; done)) ?_
              refine rw_end ?_
              refine w_weaken (G' := [(0, .slice P0 ps.length pc), (13, .slice A100 ((ps.take wh).length) c101), (106, .bool false)]) ⟨rfl, rfl, rfl, trivial⟩ ?_
              refine w_cond_f rfl rfl rfl ?_
              refine w_skip ?_
              refine w_seq ?_
              refine w_seq ?_
              refine w_region ?_
              refine rw_val (v := .slice A100 ((ps.take wh).length) c101) (w' := w102) rfl rfl rfl rfl rfl ?_
              refine rw_val (v := .int .i64 (wh : Int)) (w' := w102) rfl rfl rfl rfl (by simp [go_sem, sEv, sLook, nbeq, i64_w, -List.length_flatten]; omega) ?_
              refine rw_val (v := .int .i64 0) (w' := w102) rfl rfl rfl rfl rfl ?_
              refine rw_end ?_
              refine w_block ?_
              have hRC_ := (Kd.R_reads' hR104).2.2
              refine w_loop (fun m_ G W_ => ∃ j : Nat, j + m_ = wh ∧ Below w102.heap.size w102 W_ ∧ G = [(0, .slice P0 ps.length pc), (13, .slice A100 (ps.take wh).length c101), (109, .int .i64 (j : Int)), (108, .int .i64 (wh : Int))]) wh [(0, .slice P0 ps.length pc), (13, .slice A100 (ps.take wh).length c101), (109, .int .i64 0), (108, .int .i64 (wh : Int))] ⟨0, by omega, Below.refl _ _, rfl⟩ ⟨rfl, rfl, rfl, rfl, trivial⟩ ?_
              rintro m_ G w_4 ⟨j, hjm, hB4_, rfl⟩
              have hs_w_4 := hB4_.size
              refine w_seq ?_
              refine w_region ?_
              refine rw_val (v := .bool (decide ((j : Int) < (wh : Int)))) (w' := w_4) rfl rfl rfl rfl (by simp [go_sem, sEv, sLook, nbeq, i64_w, -List.length_flatten]) ?_
              refine rw_end ?_
              refine w_seq ?_
              refine w_cond rfl rfl (fun cJ => ?_) (fun cJ => ?_)
              · refine w_skip ?_
                refine w_seq ?_
                refine w_block ?_
                refine w_seq ?_
                refine w_region ?_
                have l_ := of_decide_eq_true cJ
                obtain ⟨ad8, A8, c8, hA8_, hcell8_, hle8_, hC8_⟩ := at_L2 hRC_ (j : Int) (by omega) (by rw [List.length_take]; omega)
                rw [show ((j : Int)).toNat = j by omega] at hcell8_
                have er_ : rd_L2 (ps.take wh) (j : Int) = rd_L2 ps (j : Int) := by rw [rd_L2_at _ j (by rw [List.length_take]; omega), rd_L2_at ps j (by omega), List.getElem_take]
                rw [er_] at hcell8_ hC8_
                obtain ⟨ad9, A9, c9, hA9_, hcell9_, hle9_, hC9_⟩ := at_L2 hP (j : Int) (by omega) (by omega)
                rw [show ((j : Int)).toNat = j by omega] at hcell9_
                subst hA8_ hA9_
                refine rw_val (v := .int .i64 (j : Int)) (w' := w_4) rfl rfl rfl rfl rfl ?_
                refine rw_val (v := .int .i64 (j : Int)) (w' := w_4) rfl rfl rfl rfl rfl ?_
                refine rw_end ?_
                refine w_seq ?_
                refine w_draw (M := [0, 0, 3, 7, 15, 0, 0, 96, 224, 480, 1023]) (ss := [Is (.slice (some ad8) ((ps.take wh).length) c101), Is (.int .i64 (j : Int)), Is (.pointer (some (ad8.add j))), Is (.slice A8 ((rd_L2 ps (j : Int)).length) c8), Is (.string (strOfNums (rd_L2 ps (j : Int)))), Is (.slice (some ad9) ps.length pc), Is (.int .i64 (j : Int)), Is (.pointer (some (ad9.add j))), Is (.slice A9 ((rd_L2 ps (j : Int)).length) c9), Is (.string (strOfNums (rd_L2 ps (j : Int)))), Is (.bool false)]) rfl (by decide +kernel) ?_
                refine t_is (.slice (some ad8) ((ps.take wh).length) c101) rfl rfl rfl rfl (fun W_ hW_ F_ => rfl) ?_
                refine t_is (.int .i64 (j : Int)) rfl rfl rfl rfl (fun W_ hW_ F_ => rfl) ?_
                refine t_is (.pointer (some (ad8.add j))) rfl rfl rfl rfl (fun W_ hW_ F_ => (by simp [go_sem, sEv, sLook, nbeq, i64_w, -List.length_flatten, Try.underlying32]; omega)) ?_
                refine t_is (.slice A8 ((rd_L2 ps (j : Int)).length) c8) rfl rfl rfl rfl (fun W_ hW_ F_ => (by have e_ := cellOn hcell8_ (chain hB4_ (below_of_drew hW_)); simp [go_sem, sEv, sLook, nbeq, i64_w, -List.length_flatten, e_])) ?_
                refine t_is (.string (strOfNums (rd_L2 ps (j : Int)))) rfl rfl rfl rfl (fun W_ hW_ F_ => run_as (run_str_of (P := Try.prog) (e := 5) (by kernel_rfl) (by kernel_rfl) (by kernel_rfl) (Kd.C_below hC8_ (chain hB4_ (below_of_drew hW_))))) ?_
                refine t_is (.slice (some ad9) ps.length pc) rfl rfl rfl rfl (fun W_ hW_ F_ => rfl) ?_
                refine t_is (.int .i64 (j : Int)) rfl rfl rfl rfl (fun W_ hW_ F_ => rfl) ?_
                refine t_is (.pointer (some (ad9.add j))) rfl rfl rfl rfl (fun W_ hW_ F_ => (by simp [go_sem, sEv, sLook, nbeq, i64_w, -List.length_flatten, Try.underlying32]; omega)) ?_
                refine t_is (.slice A9 ((rd_L2 ps (j : Int)).length) c9) rfl rfl rfl rfl (fun W_ hW_ F_ => (by have e_ := cellOn hcell9_ (chain (chain (chain hBw_ hB105) hB4_) (below_of_drew hW_)); simp [go_sem, sEv, sLook, nbeq, i64_w, -List.length_flatten, e_])) ?_
                refine t_is (.string (strOfNums (rd_L2 ps (j : Int)))) rfl rfl rfl rfl (fun W_ hW_ F_ => run_as (run_str_of (P := Try.prog) (e := 5) (by kernel_rfl) (by kernel_rfl) (by kernel_rfl) (Kd.C_below hC9_ (chain (chain (chain hBw_ hB105) hB4_) (below_of_drew hW_))))) ?_
                refine t_is (.bool false) rfl rfl rfl rfl (fun W_ hW_ F_ => (run_bool (run_as (run_str_neq 9 _ _ _)) (by simp))) ?_
                refine t_end ?_
                intro w117 hb118_ F119
                have hb118 := below_of_drew hb118_
                have hs_w117 := hb118.size
                refine w_weaken (G' := [(0, .slice (some ad9) ps.length pc), (13, .slice (some ad8) ((ps.take wh).length) c101), (108, .int .i64 (wh : Int)), (109, .int .i64 (j : Int)), (122, .bool false)]) ⟨rfl, rfl, rfl, rfl, rfl, trivial⟩ ?_
                refine w_cond_f rfl rfl rfl ?_
                refine w_skip ?_
                refine w_blk ?_
                refine w_region ?_
                refine rw_val (v := .int .i64 ((j + 1 : Nat) : Int)) (w' := w117) rfl rfl rfl rfl (by simp [go_sem, sEv, sLook, nbeq, i64_w, -List.length_flatten]; have l_ := of_decide_eq_true cJ; exact wrap_id (by omega) (by omega)) ?_
                refine rw_val (v := .int .i64 ((j + 1 : Nat) : Int)) (w' := w117) rfl rfl rfl rfl rfl ?_
                refine rw_end ?_
                have l_ := of_decide_eq_true cJ
                exact w_back (m_ - 1) [(0, .slice (some ad9) ps.length pc), (13, .slice (some ad8) (ps.take wh).length c101), (109, .int .i64 ((j + 1 : Nat) : Int)), (108, .int .i64 (wh : Int))] (by omega) ⟨rfl, rfl, rfl, rfl, trivial⟩ ⟨j + 1, by omega, (chain hB4_ hb118), rfl⟩
              · refine w_exit rfl ?_
                refine w_seq ?_
                refine w_region ?_
                refine rw_val (v := .bool true) (w' := w_4) rfl rfl rfl rfl rfl ?_
                refine rw_end ?_
                refine w_ret (post_ret1 rfl rfl ?_)
                exact ⟨rfl, (chain (chain hBw_ hB105) hB4_)⟩
            · refine rw_on (c := decide (0 < (wh : Int))) rfl rfl rfl (by first | (rw [cZ]; rfl) | simp [cZ]) ?_
              refine rw_val (v := .int .i64 ((ends ps wh : Nat) : Int)) (w' := w102) rfl rfl rfl rfl rfl ?_
              refine rw_on (c := decide (0 < (wh : Int))) rfl rfl rfl (by first | (rw [cZ]; rfl) | simp [cZ]) ?_
              refine rw_val (v := .slice A6 n6 c6) (w' := w102) rfl rfl rfl rfl rfl ?_
              refine rw_on (c := decide (0 < (wh : Int))) rfl rfl rfl (by first | (rw [cZ]; rfl) | simp [cZ]) ?_
              refine rw_val (v := .int .i64 (wh : Int)) (w' := w102) rfl rfl rfl rfl rfl ?_
              refine rw_on (c := decide (0 < (wh : Int))) rfl rfl rfl (by first | (rw [cZ]; rfl) | simp [cZ]) ?_
              refine rw_val (v := .int .i64 ((wh - 1 : Nat) : Int)) (w' := w102) rfl rfl rfl rfl (by simp [go_sem, sEv, sLook, nbeq, i64_w, -List.length_flatten]; have z_ := of_decide_eq_true cZ; rw [wrap_id (by omega) (by omega)]; omega) ?_
              refine rw_on (c := decide (0 < (wh : Int))) rfl rfl rfl (by first | (rw [cZ]; rfl) | simp [cZ]) ?_
              have z_ := of_decide_eq_true cZ
              have hn6_ := ((hO6.on hB105)).len
              rw [en_len] at hn6_
              obtain ⟨ad120, hA121, hc122⟩ := Kd.at_int (Own.C (hO6.on hB105)) ((wh - 1 : Nat) : Int) (by omega) (by rw [en_len]; omega)
              rw [en_rd ps ps.length (wh - 1) (by omega)] at hc122
              rw [show (((wh - 1 : Nat) : Int)).toNat = wh - 1 by omega] at hc122
              have hv_ : (Value.slice A6 n6 c6) = .slice (some ad120) ps.length c6 := by rw [hA121, hn6_]
              refine rw_val (v := .pointer (some (ad120.add (wh - 1)))) (w' := w102) rfl rfl rfl rfl (by simp [go_sem, sEv, sLook, nbeq, i64_w, -List.length_flatten, Try.underlying23, hA121]; omega) ?_
              refine rw_on (c := decide (0 < (wh : Int))) rfl rfl rfl (by first | (rw [cZ]; rfl) | simp [cZ]) ?_
              refine rw_val (v := .int .i64 ((ends ps ((wh - 1) + 1) : Nat) : Int)) (w' := w102) rfl rfl rfl rfl (by simp [go_sem, sEv, sLook, nbeq, i64_w, -List.length_flatten, hc122]) ?_
              refine rw_on (c := decide (0 < (wh : Int))) rfl rfl rfl (by first | (rw [cZ]; rfl) | simp [cZ]) ?_
              refine rw_val (v := .bool (((ends ps wh : Nat) : Int) != ((ends ps ((wh - 1) + 1) : Nat) : Int))) (w' := w102) rfl rfl rfl rfl (by simp [go_sem, sEv, sLook, nbeq, i64_w, -List.length_flatten]) ?_
              refine rw_on (c := (((ends ps wh : Nat) : Int) != 0)) rfl rfl rfl (by first | (rw [hq116]; rfl) | simp [hq116]) ?_
              refine rw_val (v := .bool (((ends ps wh : Nat) : Int) != ((ends ps ((wh - 1) + 1) : Nat) : Int))) (w' := w102) rfl rfl rfl rfl (by first | (simp [go_sem, sEv, sLook, nbeq, i64_w, -List.length_flatten, cZ]; done) | (simp [go_sem, sEv, sLook, nbeq, i64_w, -List.length_flatten] <;> omega) | (simp [go_sem, sEv, sLook, nbeq, i64_w, -List.length_flatten]; intro h_; exact absurd (by omega) h_) | (rw [cZ]; simp [go_sem, sEv, sLook, nbeq, i64_w, -List.length_flatten]; done)) ?_
              refine rw_val (v := .bool (((ends ps wh : Nat) : Int) != ((ends ps ((wh - 1) + 1) : Nat) : Int))) (w' := w102) rfl rfl rfl rfl (by first | (simp [go_sem, sEv, sLook, nbeq, i64_w, -List.length_flatten, hq116]; done) | (simp [go_sem, sEv, sLook, nbeq, i64_w, -List.length_flatten] <;> omega) | (simp [go_sem, sEv, sLook, nbeq, i64_w, -List.length_flatten]; intro h_; exact absurd (by omega) h_) | (rw [hq116]; simp [go_sem, sEv, sLook, nbeq, i64_w, -List.length_flatten]; done)) ?_
              refine rw_end ?_
              refine w_weaken (G' := [(0, .slice P0 ps.length pc), (13, .slice A100 ((ps.take wh).length) c101), (106, .bool (((ends ps wh : Nat) : Int) != ((ends ps ((wh - 1) + 1) : Nat) : Int)))]) ⟨rfl, rfl, rfl, trivial⟩ ?_
              have hq123 : (((ends ps wh : Nat) : Int) != ((ends ps ((wh - 1) + 1) : Nat) : Int)) = false := by have z_ := of_decide_eq_true cZ; rw [show wh - 1 + 1 = wh by omega]; simp
              refine w_cond_f rfl rfl hq123 ?_
              refine w_skip ?_
              refine w_seq ?_
              refine w_seq ?_
              refine w_region ?_
              refine rw_val (v := .slice A100 ((ps.take wh).length) c101) (w' := w102) rfl rfl rfl rfl rfl ?_
              refine rw_val (v := .int .i64 (wh : Int)) (w' := w102) rfl rfl rfl rfl (by simp [go_sem, sEv, sLook, nbeq, i64_w, -List.length_flatten]; omega) ?_
              refine rw_val (v := .int .i64 0) (w' := w102) rfl rfl rfl rfl rfl ?_
              refine rw_end ?_
              refine w_block ?_
              have hRC_ := (Kd.R_reads' hR104).2.2
              refine w_loop (fun m_ G W_ => ∃ j : Nat, j + m_ = wh ∧ Below w102.heap.size w102 W_ ∧ G = [(0, .slice P0 ps.length pc), (13, .slice A100 (ps.take wh).length c101), (109, .int .i64 (j : Int)), (108, .int .i64 (wh : Int))]) wh [(0, .slice P0 ps.length pc), (13, .slice A100 (ps.take wh).length c101), (109, .int .i64 0), (108, .int .i64 (wh : Int))] ⟨0, by omega, Below.refl _ _, rfl⟩ ⟨rfl, rfl, rfl, rfl, trivial⟩ ?_
              rintro m_ G w_4 ⟨j, hjm, hB4_, rfl⟩
              have hs_w_4 := hB4_.size
              refine w_seq ?_
              refine w_region ?_
              refine rw_val (v := .bool (decide ((j : Int) < (wh : Int)))) (w' := w_4) rfl rfl rfl rfl (by simp [go_sem, sEv, sLook, nbeq, i64_w, -List.length_flatten]) ?_
              refine rw_end ?_
              refine w_seq ?_
              refine w_cond rfl rfl (fun cJ => ?_) (fun cJ => ?_)
              · refine w_skip ?_
                refine w_seq ?_
                refine w_block ?_
                refine w_seq ?_
                refine w_region ?_
                have l_ := of_decide_eq_true cJ
                obtain ⟨ad8, A8, c8, hA8_, hcell8_, hle8_, hC8_⟩ := at_L2 hRC_ (j : Int) (by omega) (by rw [List.length_take]; omega)
                rw [show ((j : Int)).toNat = j by omega] at hcell8_
                have er_ : rd_L2 (ps.take wh) (j : Int) = rd_L2 ps (j : Int) := by rw [rd_L2_at _ j (by rw [List.length_take]; omega), rd_L2_at ps j (by omega), List.getElem_take]
                rw [er_] at hcell8_ hC8_
                obtain ⟨ad9, A9, c9, hA9_, hcell9_, hle9_, hC9_⟩ := at_L2 hP (j : Int) (by omega) (by omega)
                rw [show ((j : Int)).toNat = j by omega] at hcell9_
                subst hA8_ hA9_
                refine rw_val (v := .int .i64 (j : Int)) (w' := w_4) rfl rfl rfl rfl rfl ?_
                refine rw_val (v := .int .i64 (j : Int)) (w' := w_4) rfl rfl rfl rfl rfl ?_
                refine rw_end ?_
                refine w_seq ?_
                refine w_draw (M := [0, 0, 3, 7, 15, 0, 0, 96, 224, 480, 1023]) (ss := [Is (.slice (some ad8) ((ps.take wh).length) c101), Is (.int .i64 (j : Int)), Is (.pointer (some (ad8.add j))), Is (.slice A8 ((rd_L2 ps (j : Int)).length) c8), Is (.string (strOfNums (rd_L2 ps (j : Int)))), Is (.slice (some ad9) ps.length pc), Is (.int .i64 (j : Int)), Is (.pointer (some (ad9.add j))), Is (.slice A9 ((rd_L2 ps (j : Int)).length) c9), Is (.string (strOfNums (rd_L2 ps (j : Int)))), Is (.bool false)]) rfl (by decide +kernel) ?_
                refine t_is (.slice (some ad8) ((ps.take wh).length) c101) rfl rfl rfl rfl (fun W_ hW_ F_ => rfl) ?_
                refine t_is (.int .i64 (j : Int)) rfl rfl rfl rfl (fun W_ hW_ F_ => rfl) ?_
                refine t_is (.pointer (some (ad8.add j))) rfl rfl rfl rfl (fun W_ hW_ F_ => (by simp [go_sem, sEv, sLook, nbeq, i64_w, -List.length_flatten, Try.underlying32]; omega)) ?_
                refine t_is (.slice A8 ((rd_L2 ps (j : Int)).length) c8) rfl rfl rfl rfl (fun W_ hW_ F_ => (by have e_ := cellOn hcell8_ (chain hB4_ (below_of_drew hW_)); simp [go_sem, sEv, sLook, nbeq, i64_w, -List.length_flatten, e_])) ?_
                refine t_is (.string (strOfNums (rd_L2 ps (j : Int)))) rfl rfl rfl rfl (fun W_ hW_ F_ => run_as (run_str_of (P := Try.prog) (e := 5) (by kernel_rfl) (by kernel_rfl) (by kernel_rfl) (Kd.C_below hC8_ (chain hB4_ (below_of_drew hW_))))) ?_
                refine t_is (.slice (some ad9) ps.length pc) rfl rfl rfl rfl (fun W_ hW_ F_ => rfl) ?_
                refine t_is (.int .i64 (j : Int)) rfl rfl rfl rfl (fun W_ hW_ F_ => rfl) ?_
                refine t_is (.pointer (some (ad9.add j))) rfl rfl rfl rfl (fun W_ hW_ F_ => (by simp [go_sem, sEv, sLook, nbeq, i64_w, -List.length_flatten, Try.underlying32]; omega)) ?_
                refine t_is (.slice A9 ((rd_L2 ps (j : Int)).length) c9) rfl rfl rfl rfl (fun W_ hW_ F_ => (by have e_ := cellOn hcell9_ (chain (chain (chain hBw_ hB105) hB4_) (below_of_drew hW_)); simp [go_sem, sEv, sLook, nbeq, i64_w, -List.length_flatten, e_])) ?_
                refine t_is (.string (strOfNums (rd_L2 ps (j : Int)))) rfl rfl rfl rfl (fun W_ hW_ F_ => run_as (run_str_of (P := Try.prog) (e := 5) (by kernel_rfl) (by kernel_rfl) (by kernel_rfl) (Kd.C_below hC9_ (chain (chain (chain hBw_ hB105) hB4_) (below_of_drew hW_))))) ?_
                refine t_is (.bool false) rfl rfl rfl rfl (fun W_ hW_ F_ => (run_bool (run_as (run_str_neq 9 _ _ _)) (by simp))) ?_
                refine t_end ?_
                intro w124 hb125_ F126
                have hb125 := below_of_drew hb125_
                have hs_w124 := hb125.size
                refine w_weaken (G' := [(0, .slice (some ad9) ps.length pc), (13, .slice (some ad8) ((ps.take wh).length) c101), (108, .int .i64 (wh : Int)), (109, .int .i64 (j : Int)), (122, .bool false)]) ⟨rfl, rfl, rfl, rfl, rfl, trivial⟩ ?_
                refine w_cond_f rfl rfl rfl ?_
                refine w_skip ?_
                refine w_blk ?_
                refine w_region ?_
                refine rw_val (v := .int .i64 ((j + 1 : Nat) : Int)) (w' := w124) rfl rfl rfl rfl (by simp [go_sem, sEv, sLook, nbeq, i64_w, -List.length_flatten]; have l_ := of_decide_eq_true cJ; exact wrap_id (by omega) (by omega)) ?_
                refine rw_val (v := .int .i64 ((j + 1 : Nat) : Int)) (w' := w124) rfl rfl rfl rfl rfl ?_
                refine rw_end ?_
                have l_ := of_decide_eq_true cJ
                exact w_back (m_ - 1) [(0, .slice (some ad9) ps.length pc), (13, .slice (some ad8) (ps.take wh).length c101), (109, .int .i64 ((j + 1 : Nat) : Int)), (108, .int .i64 (wh : Int))] (by omega) ⟨rfl, rfl, rfl, rfl, trivial⟩ ⟨j + 1, by omega, (chain hB4_ hb125), rfl⟩
              · refine w_exit rfl ?_
                refine w_seq ?_
                refine w_region ?_
                refine rw_val (v := .bool true) (w' := w_4) rfl rfl rfl rfl rfl ?_
                refine rw_end ?_
                refine w_ret (post_ret1 rfl rfl ?_)
                exact ⟨rfl, (chain (chain hBw_ hB105) hB4_)⟩

theorem walkCuts (w : World) (P0 : Option Addr) (ps : List (List Int)) (pc : Nat) (hP : (Kd.slice 5 (Kd.int .u8)).C w P0 ps.length ps) (hc0 : ps.length ≤ pc) (hsz : ps.length * 24 ≤ 140737488351232) (hbs : ∀ p ∈ ps, ∀ c ∈ p, (Lit.int .u8 c).wf = true) (kc : Int) : Calls Try.prog 7 #[.slice P0 ps.length pc, .int .i64 kc] w fun e w' => e = .returned (.bool true) ∧ Below w.heap.size w w' := by
  have h0 : 0 ≤ IntKind.u64.wrap kc := by rw [u64_wrap]; omega
  have h1 := Int.emod_nonneg (IntKind.u64.wrap kc) (show (((FC ps).length + 1 : Nat) : Int) ≠ 0 by omega)
  have h2 := Int.emod_lt_of_pos (IntKind.u64.wrap kc) (show 0 < (((FC ps).length + 1 : Nat) : Int) by omega)
  obtain ⟨k, hk⟩ := Int.eq_ofNat_of_zero_le h1
  exact cuts_nat w P0 ps pc hP hc0 (by omega) (fun p hp c hc => by have h := Go.bounds_u8 (hbs p hp c hc); omega) kc k (by rw [Int.tmod_eq_emod_of_nonneg h0]; exact hk) (by omega)
end Go.Proofs.Ytjndoihnpnmbjaa.PFrameSums
