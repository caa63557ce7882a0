/- A tape's methods: the walks, third part. -/
import Derived.Test.YtiiljpaedelhlaaTpBase
namespace Go.Proofs.Ytiiljpaedelhlaa.Tp
open Go.RowKit Go.Proofs.YtiiljpaedelhlaaW.PrintWords Go.Proofs.YtiiljpaedelhlaaW.PrintLast Go.Proofs.YtiiljpaedelhlaaW.PrintMore
open Go.Proofs.Ytiiljpaedelhlaa.Flow
set_option linter.unusedVariables false
set_option linter.unusedSimpArgs false

set_option maxHeartbeats 4000000 in
theorem clone_calls (w : World) (A : Option Addr) (n c : Nat) (xs : List Int) (hC : (Kd.int .u8).C w A n xs) (hl : n ≤ 140737488355328) :
    Calls Try.prog 42 #[.slice A n c] w fun e w' => ∃ A' n' c', e = .returned (.slice A' n' c') ∧ Own .u8 5 w' w.heap.size w.heap.size A' n' c' xs ∧ Below w.heap.size w w' := by
  refine calls_flow Try.func42 rfl 8 rfl (Nat.le_of_ble_eq_true rfl) [(0, .slice A n c)] ?_ ?_
  · intro t v h; exact args_look rfl t v h
  refine w_seq ?_
  refine w_region ?_
  refine rw_val (v := .slice none 0 0) (w' := w) rfl rfl rfl rfl rfl ?_
  refine rw_end ?_
  refine w_seq ?_
  refine w_seq ?_
  refine w_region ?_
  refine rw_val (v := .slice A n c) (w' := w) rfl rfl rfl rfl rfl ?_
  refine rw_val (v := .bool A.isNone) (w' := w) rfl rfl rfl rfl (run_as (run_nil_eql (P := Try.prog) (e := 5) (by kernel_rfl) _ _ _ _)) ?_
  refine rw_end ?_
  refine w_cond rfl rfl (fun cN => ?_) (fun cN => ?_)
  · refine w_seq ?_
    refine w_region ?_
    refine rw_val (v := .slice none 0 0) (w' := w) rfl rfl rfl rfl rfl ?_
    refine rw_end ?_
    refine w_ret (post_ret1 rfl rfl ?_)
    have hn_ : xs = [] := by
      have h1_ := hC.1
      have h2_ := hC.2.2
      rcases n with _ | n
      · exact List.eq_nil_of_length_eq_zero h1_
      · obtain ⟨ad, h3_, _⟩ := h2_ (by omega)
        rw [h3_] at cN
        exact absurd cN (by simp)
    subst hn_
    exact ⟨_, _, _, rfl, Own.nil _ _ _ _ _, (Below.refl _ _)⟩
  · refine w_skip ?_
    refine w_seq ?_
    refine w_region ?_
    refine rw_new (cs := #[]) (t := 5) (fun g => .slice (some ⟨g, 0, none⟩) 0 0) rfl rfl rfl rfl (by kernel_rfl) ?_
    intro g1 w2 hg6 hz5 hb3 hk4
    have hs_w2 := hb3.size
    have hO7 : Own .u8 5 w2 w.heap.size g1 (some ⟨g1, 0, none⟩) 0 0 [] := own_blk w.heap.size hk4 (by omega) rfl (by simp) (by omega) (Nums.nil _ _)
    refine rw_val (v := .slice A n c) (w' := w2) rfl rfl rfl rfl rfl ?_
    refine rw_append_row .u8 w.heap.size rfl rfl rfl (.tmp 5) (.tmp 6) rfl rfl 32 5 1 rfl (by kernel_rfl) info5 (by decide) (b := g1) rfl rfl (by omega) (hO7.on (Below.refl _ _)) (Kd.C_below hC hb3) hb3 (by omega) (by simp; omega) ?_
    intro A8 n9 c10 w11 hn12 hO13 hB14 hG15
    have hs_w11 := hB14.size
    have hgs_w11 := hG15.size
    refine rw_val (v := .slice A8 n9 c10) (w' := w11) rfl rfl rfl rfl rfl ?_
    refine rw_end ?_
    refine w_weaken (G' := [(2, .slice A8 n9 c10)]) ⟨rfl, trivial⟩ ?_
    refine w_ret (post_ret1 rfl rfl ?_)
    exact ⟨_, _, _, rfl, by simpa using ((hO13.on (Below.refl _ _)).mono (by omega) : Own .u8 5 w11 w.heap.size w.heap.size _ _ _ _), hB14⟩
set_option maxHeartbeats 4000000 in
theorem due3_calls (w : World) (g : Nat) (s : TS) (A : Option Addr) (n c : Nat) (hb : Blk w g 76 (tcells A n c s)) (hl : 0 ≤ s.pl ∧ s.pl ≤ 9223372036854775807) :
    Calls Try.prog 58 #[.pointer (some ⟨g, 3, none⟩)] w fun e w' => e = .returned (.bool (s.ps && (s.pl == 0))) ∧ Keep g w w' ∧ Blk w' g 76 #[.slice A n c, .int .i64 s.sure, .int .i64 s.steps, .bool s.ps, .int .i64 (duel s.ps s.pl), .bool s.fs, .int .i64 s.fl, .bool s.dn] := by
  refine calls_flow Try.func58 rfl 25 rfl (Nat.le_of_ble_eq_true rfl) [(0, .pointer (some ⟨g, 3, none⟩))] ?_ ?_
  · intro t v h; exact args_look rfl t v h
  refine w_seq ?_
  refine w_region ?_
  refine rw_val (v := .bool false) (w' := w) rfl rfl rfl rfl rfl ?_
  refine rw_end ?_
  refine w_seq ?_
  refine w_seq ?_
  refine w_region ?_
  refine rw_val (v := .pointer (some ⟨g, 3, none⟩)) (w' := w) rfl rfl rfl rfl rfl ?_
  refine rw_val (v := .pointer (some ⟨g, 3, none⟩)) (w' := w) rfl rfl rfl rfl (by simp [go_sem, sEv, sLook, nbeq, i64_w]) ?_
  refine rw_val (v := .pointer (some ⟨g, 3, none⟩)) (w' := w) rfl rfl rfl rfl (by simp [go_sem, sEv, sLook, nbeq, i64_w, Try.underlying74]) ?_
  refine rw_val (v := .bool s.ps) (w' := w) rfl rfl rfl rfl (by have eb_ := hb; have e0_ := eb_.cellv (i := 3) (v := (.bool s.ps : Value)) rfl; simp [go_sem, sEv, sLook, nbeq, i64_w, e0_]) ?_
  refine rw_val (v := .bool s.ps) (w' := w) rfl rfl rfl rfl rfl ?_
  rcases bcase s.ps with cS | cS
  · refine rw_off (c := s.ps) rfl rfl rfl (by simp [cS]) rfl rfl ?_
    refine rw_off (c := s.ps) rfl rfl rfl (by simp [cS]) rfl rfl ?_
    refine rw_off (c := s.ps) rfl rfl rfl (by simp [cS]) rfl rfl ?_
    refine rw_off (c := s.ps) rfl rfl rfl (by simp [cS]) rfl rfl ?_
    refine rw_off (c := s.ps) rfl rfl rfl (by simp [cS]) rfl rfl ?_
    refine rw_val (v := .bool false) (w' := w) rfl rfl rfl rfl (by simp [go_sem, sEv, sLook, nbeq, i64_w, cS]) ?_
    refine rw_end ?_
    refine w_weaken (G' := [(0, .pointer (some ⟨g, 3, none⟩)), (2, .bool false), (13, .bool false)]) ⟨rfl, rfl, rfl, trivial⟩ ?_
    refine w_cond_f rfl rfl rfl ?_
    refine w_skip ?_
    refine w_seq ?_
    refine w_seq ?_
    refine w_region ?_
    refine rw_val (v := .pointer (some ⟨g, 3, none⟩)) (w' := w) rfl rfl rfl rfl rfl ?_
    refine rw_val (v := .pointer (some ⟨g, 3, none⟩)) (w' := w) rfl rfl rfl rfl (by simp [go_sem, sEv, sLook, nbeq, i64_w]) ?_
    refine rw_val (v := .pointer (some ⟨g, 3, none⟩)) (w' := w) rfl rfl rfl rfl (by simp [go_sem, sEv, sLook, nbeq, i64_w, Try.underlying74]) ?_
    refine rw_val (v := .bool s.ps) (w' := w) rfl rfl rfl rfl (by have eb_ := hb; have e0_ := eb_.cellv (i := 3) (v := (.bool s.ps : Value)) rfl; simp [go_sem, sEv, sLook, nbeq, i64_w, e0_]) ?_
    refine rw_end ?_
    refine w_weaken (G' := [(0, .pointer (some ⟨g, 3, none⟩)), (2, .bool false), (17, .bool s.ps)]) ⟨rfl, rfl, rfl, trivial⟩ ?_
    refine w_cond_f rfl rfl cS ?_
    refine w_skip ?_
    refine w_seq ?_
    refine w_region ?_
    refine rw_val (v := .bool false) (w' := w) rfl rfl rfl rfl rfl ?_
    refine rw_end ?_
    refine w_ret (post_ret1 rfl rfl ?_)
    have d_ : duel s.ps s.pl = s.pl := by unfold duel; simp [cS]
    have b_ : (s.ps && (s.pl == 0)) = false := by simp [cS]
    rw [d_, b_]
    exact ⟨rfl, Keep.refl _ _, hb⟩
  · refine rw_gval (c := s.ps) (v := .pointer (some ⟨g, 3, none⟩)) (w' := w) rfl rfl rfl (by simp [cS]) rfl rfl rfl (by rfl) ?_
    refine rw_gval (c := s.ps) (v := .pointer (some ⟨g, 3, none⟩)) (w' := w) rfl rfl rfl (by simp [cS]) rfl rfl rfl (by simp [go_sem, sEv, sLook, nbeq, i64_w]) ?_
    refine rw_gval (c := s.ps) (v := .pointer (some ⟨g, 4, none⟩)) (w' := w) rfl rfl rfl (by simp [cS]) rfl rfl rfl (by simp [go_sem, sEv, sLook, nbeq, i64_w, Try.underlying74]) ?_
    refine rw_gval (c := s.ps) (v := .int .i64 s.pl) (w' := w) rfl rfl rfl (by simp [cS]) rfl rfl rfl (by have eb_ := hb; have e0_ := eb_.cellv (i := 4) (v := (.int .i64 s.pl : Value)) rfl; simp [go_sem, sEv, sLook, nbeq, i64_w, e0_]) ?_
    refine rw_gval (c := s.ps) (v := .bool (s.pl == 0)) (w' := w) rfl rfl rfl (by simp [cS]) rfl rfl rfl (by simp [go_sem, sEv, sLook, nbeq, i64_w]) ?_
    refine rw_val (v := .bool (s.pl == 0)) (w' := w) rfl rfl rfl rfl (by simp [go_sem, sEv, sLook, nbeq, i64_w, cS]) ?_
    refine rw_end ?_
    refine w_weaken (G' := [(0, .pointer (some ⟨g, 3, none⟩)), (2, .bool false), (13, .bool (s.pl == 0))]) ⟨rfl, rfl, rfl, trivial⟩ ?_
    refine w_cond rfl rfl (fun cL => ?_) (fun cL => ?_)
    · refine w_seq ?_
      refine w_region ?_
      refine rw_val (v := .bool true) (w' := w) rfl rfl rfl rfl rfl ?_
      refine rw_end ?_
      refine w_ret (post_ret1 rfl rfl ?_)
      have d_ : duel s.ps s.pl = s.pl := by unfold duel; simp [cS, cL]
      have b_ : (s.ps && (s.pl == 0)) = true := by simp [cS, cL]
      rw [d_, b_]
      exact ⟨rfl, Keep.refl _ _, hb⟩
    · refine w_skip ?_
      refine w_seq ?_
      refine w_seq ?_
      refine w_region ?_
      refine rw_val (v := .pointer (some ⟨g, 3, none⟩)) (w' := w) rfl rfl rfl rfl rfl ?_
      refine rw_val (v := .pointer (some ⟨g, 3, none⟩)) (w' := w) rfl rfl rfl rfl (by simp [go_sem, sEv, sLook, nbeq, i64_w]) ?_
      refine rw_val (v := .pointer (some ⟨g, 3, none⟩)) (w' := w) rfl rfl rfl rfl (by simp [go_sem, sEv, sLook, nbeq, i64_w, Try.underlying74]) ?_
      refine rw_val (v := .bool s.ps) (w' := w) rfl rfl rfl rfl (by have eb_ := hb; have e0_ := eb_.cellv (i := 3) (v := (.bool s.ps : Value)) rfl; simp [go_sem, sEv, sLook, nbeq, i64_w, e0_]) ?_
      refine rw_end ?_
      refine w_weaken (G' := [(0, .pointer (some ⟨g, 3, none⟩)), (2, .bool false), (17, .bool s.ps)]) ⟨rfl, rfl, rfl, trivial⟩ ?_
      refine w_cond_t rfl rfl cS ?_
      refine w_region ?_
      refine rw_val (v := .pointer (some ⟨g, 3, none⟩)) (w' := w) rfl rfl rfl rfl rfl ?_
      refine rw_val (v := .pointer (some ⟨g, 3, none⟩)) (w' := w) rfl rfl rfl rfl (by simp [go_sem, sEv, sLook, nbeq, i64_w]) ?_
      refine rw_val (v := .pointer (some ⟨g, 4, none⟩)) (w' := w) rfl rfl rfl rfl (by simp [go_sem, sEv, sLook, nbeq, i64_w, Try.underlying74]) ?_
      refine rw_val (v := .int .i64 s.pl) (w' := w) rfl rfl rfl rfl (by have eb_ := hb; have e0_ := eb_.cellv (i := 4) (v := (.int .i64 s.pl : Value)) rfl; simp [go_sem, sEv, sLook, nbeq, i64_w, e0_]) ?_
      refine rw_val (v := .int .i64 (s.pl - 1)) (w' := w) rfl rfl rfl rfl (by simp [go_sem, sEv, sLook, nbeq, i64_w]; have := hl.1; have : ¬ s.pl = 0 := (by simpa using cL); exact wrap_id (by omega) (by omega)) ?_
      refine rw_val (v := .pointer (some ⟨g, 3, none⟩)) (w' := w) rfl rfl rfl rfl (by simp [go_sem, sEv, sLook, nbeq, i64_w]) ?_
      refine rw_val (v := .pointer (some ⟨g, 4, none⟩)) (w' := w) rfl rfl rfl rfl (by simp [go_sem, sEv, sLook, nbeq, i64_w, Try.underlying74]) ?_
      have hb4 := hb
      refine rw_store (g := g) (i := 4) (l := [.int .i64 (s.pl - 1)]) (cs' := #[.slice A n c, .int .i64 s.sure, .int .i64 s.steps, .bool s.ps, .int .i64 (s.pl - 1), .bool s.fs, .int .i64 s.fl, .bool s.dn]) rfl rfl rfl hb4 rfl (by have e0_ := hb4.cellv (i := 4) (v := (.int .i64 s.pl : Value)) rfl; have f0_ := hb4.frozen 4; simp [go_sem, sEv, sLook, nbeq, i64_w, putCells, e0_, f0_]) ?_
      intro w1 hk2 hk3
      have hs_w1 := hk2.size
      refine rw_end ?_
      refine w_weaken (G' := [(2, .bool false)]) ⟨rfl, trivial⟩ ?_
      refine w_seq ?_
      refine w_region ?_
      refine rw_val (v := .bool false) (w' := w1) rfl rfl rfl rfl rfl ?_
      refine rw_end ?_
      refine w_ret (post_ret1 rfl rfl ?_)
      have d_ : duel s.ps s.pl = s.pl - 1 := by unfold duel; simp [cS, cL]
      have b_ : (s.ps && (s.pl == 0)) = false := by simp [cS, cL]
      rw [d_, b_]
      exact ⟨rfl, hk2, hk3⟩
set_option maxHeartbeats 4000000 in
theorem due5_calls (w : World) (g : Nat) (s : TS) (A : Option Addr) (n c : Nat) (hb : Blk w g 76 (tcells A n c s)) (hl : 0 ≤ s.fl ∧ s.fl ≤ 9223372036854775807) :
    Calls Try.prog 58 #[.pointer (some ⟨g, 5, none⟩)] w fun e w' => e = .returned (.bool (s.fs && (s.fl == 0))) ∧ Keep g w w' ∧ Blk w' g 76 #[.slice A n c, .int .i64 s.sure, .int .i64 s.steps, .bool s.ps, .int .i64 s.pl, .bool s.fs, .int .i64 (duel s.fs s.fl), .bool s.dn] := by
  refine calls_flow Try.func58 rfl 25 rfl (Nat.le_of_ble_eq_true rfl) [(0, .pointer (some ⟨g, 5, none⟩))] ?_ ?_
  · intro t v h; exact args_look rfl t v h
  refine w_seq ?_
  refine w_region ?_
  refine rw_val (v := .bool false) (w' := w) rfl rfl rfl rfl rfl ?_
  refine rw_end ?_
  refine w_seq ?_
  refine w_seq ?_
  refine w_region ?_
  refine rw_val (v := .pointer (some ⟨g, 5, none⟩)) (w' := w) rfl rfl rfl rfl rfl ?_
  refine rw_val (v := .pointer (some ⟨g, 5, none⟩)) (w' := w) rfl rfl rfl rfl (by simp [go_sem, sEv, sLook, nbeq, i64_w]) ?_
  refine rw_val (v := .pointer (some ⟨g, 5, none⟩)) (w' := w) rfl rfl rfl rfl (by simp [go_sem, sEv, sLook, nbeq, i64_w, Try.underlying74]) ?_
  refine rw_val (v := .bool s.fs) (w' := w) rfl rfl rfl rfl (by have eb_ := hb; have e0_ := eb_.cellv (i := 5) (v := (.bool s.fs : Value)) rfl; simp [go_sem, sEv, sLook, nbeq, i64_w, e0_]) ?_
  refine rw_val (v := .bool s.fs) (w' := w) rfl rfl rfl rfl rfl ?_
  rcases bcase s.fs with cS | cS
  · refine rw_off (c := s.fs) rfl rfl rfl (by simp [cS]) rfl rfl ?_
    refine rw_off (c := s.fs) rfl rfl rfl (by simp [cS]) rfl rfl ?_
    refine rw_off (c := s.fs) rfl rfl rfl (by simp [cS]) rfl rfl ?_
    refine rw_off (c := s.fs) rfl rfl rfl (by simp [cS]) rfl rfl ?_
    refine rw_off (c := s.fs) rfl rfl rfl (by simp [cS]) rfl rfl ?_
    refine rw_val (v := .bool false) (w' := w) rfl rfl rfl rfl (by simp [go_sem, sEv, sLook, nbeq, i64_w, cS]) ?_
    refine rw_end ?_
    refine w_weaken (G' := [(0, .pointer (some ⟨g, 5, none⟩)), (2, .bool false), (13, .bool false)]) ⟨rfl, rfl, rfl, trivial⟩ ?_
    refine w_cond_f rfl rfl rfl ?_
    refine w_skip ?_
    refine w_seq ?_
    refine w_seq ?_
    refine w_region ?_
    refine rw_val (v := .pointer (some ⟨g, 5, none⟩)) (w' := w) rfl rfl rfl rfl rfl ?_
    refine rw_val (v := .pointer (some ⟨g, 5, none⟩)) (w' := w) rfl rfl rfl rfl (by simp [go_sem, sEv, sLook, nbeq, i64_w]) ?_
    refine rw_val (v := .pointer (some ⟨g, 5, none⟩)) (w' := w) rfl rfl rfl rfl (by simp [go_sem, sEv, sLook, nbeq, i64_w, Try.underlying74]) ?_
    refine rw_val (v := .bool s.fs) (w' := w) rfl rfl rfl rfl (by have eb_ := hb; have e0_ := eb_.cellv (i := 5) (v := (.bool s.fs : Value)) rfl; simp [go_sem, sEv, sLook, nbeq, i64_w, e0_]) ?_
    refine rw_end ?_
    refine w_weaken (G' := [(0, .pointer (some ⟨g, 5, none⟩)), (2, .bool false), (17, .bool s.fs)]) ⟨rfl, rfl, rfl, trivial⟩ ?_
    refine w_cond_f rfl rfl cS ?_
    refine w_skip ?_
    refine w_seq ?_
    refine w_region ?_
    refine rw_val (v := .bool false) (w' := w) rfl rfl rfl rfl rfl ?_
    refine rw_end ?_
    refine w_ret (post_ret1 rfl rfl ?_)
    have d_ : duel s.fs s.fl = s.fl := by unfold duel; simp [cS]
    have b_ : (s.fs && (s.fl == 0)) = false := by simp [cS]
    rw [d_, b_]
    exact ⟨rfl, Keep.refl _ _, hb⟩
  · refine rw_gval (c := s.fs) (v := .pointer (some ⟨g, 5, none⟩)) (w' := w) rfl rfl rfl (by simp [cS]) rfl rfl rfl (by rfl) ?_
    refine rw_gval (c := s.fs) (v := .pointer (some ⟨g, 5, none⟩)) (w' := w) rfl rfl rfl (by simp [cS]) rfl rfl rfl (by simp [go_sem, sEv, sLook, nbeq, i64_w]) ?_
    refine rw_gval (c := s.fs) (v := .pointer (some ⟨g, 6, none⟩)) (w' := w) rfl rfl rfl (by simp [cS]) rfl rfl rfl (by simp [go_sem, sEv, sLook, nbeq, i64_w, Try.underlying74]) ?_
    refine rw_gval (c := s.fs) (v := .int .i64 s.fl) (w' := w) rfl rfl rfl (by simp [cS]) rfl rfl rfl (by have eb_ := hb; have e0_ := eb_.cellv (i := 6) (v := (.int .i64 s.fl : Value)) rfl; simp [go_sem, sEv, sLook, nbeq, i64_w, e0_]) ?_
    refine rw_gval (c := s.fs) (v := .bool (s.fl == 0)) (w' := w) rfl rfl rfl (by simp [cS]) rfl rfl rfl (by simp [go_sem, sEv, sLook, nbeq, i64_w]) ?_
    refine rw_val (v := .bool (s.fl == 0)) (w' := w) rfl rfl rfl rfl (by simp [go_sem, sEv, sLook, nbeq, i64_w, cS]) ?_
    refine rw_end ?_
    refine w_weaken (G' := [(0, .pointer (some ⟨g, 5, none⟩)), (2, .bool false), (13, .bool (s.fl == 0))]) ⟨rfl, rfl, rfl, trivial⟩ ?_
    refine w_cond rfl rfl (fun cL => ?_) (fun cL => ?_)
    · refine w_seq ?_
      refine w_region ?_
      refine rw_val (v := .bool true) (w' := w) rfl rfl rfl rfl rfl ?_
      refine rw_end ?_
      refine w_ret (post_ret1 rfl rfl ?_)
      have d_ : duel s.fs s.fl = s.fl := by unfold duel; simp [cS, cL]
      have b_ : (s.fs && (s.fl == 0)) = true := by simp [cS, cL]
      rw [d_, b_]
      exact ⟨rfl, Keep.refl _ _, hb⟩
    · refine w_skip ?_
      refine w_seq ?_
      refine w_seq ?_
      refine w_region ?_
      refine rw_val (v := .pointer (some ⟨g, 5, none⟩)) (w' := w) rfl rfl rfl rfl rfl ?_
      refine rw_val (v := .pointer (some ⟨g, 5, none⟩)) (w' := w) rfl rfl rfl rfl (by simp [go_sem, sEv, sLook, nbeq, i64_w]) ?_
      refine rw_val (v := .pointer (some ⟨g, 5, none⟩)) (w' := w) rfl rfl rfl rfl (by simp [go_sem, sEv, sLook, nbeq, i64_w, Try.underlying74]) ?_
      refine rw_val (v := .bool s.fs) (w' := w) rfl rfl rfl rfl (by have eb_ := hb; have e0_ := eb_.cellv (i := 5) (v := (.bool s.fs : Value)) rfl; simp [go_sem, sEv, sLook, nbeq, i64_w, e0_]) ?_
      refine rw_end ?_
      refine w_weaken (G' := [(0, .pointer (some ⟨g, 5, none⟩)), (2, .bool false), (17, .bool s.fs)]) ⟨rfl, rfl, rfl, trivial⟩ ?_
      refine w_cond_t rfl rfl cS ?_
      refine w_region ?_
      refine rw_val (v := .pointer (some ⟨g, 5, none⟩)) (w' := w) rfl rfl rfl rfl rfl ?_
      refine rw_val (v := .pointer (some ⟨g, 5, none⟩)) (w' := w) rfl rfl rfl rfl (by simp [go_sem, sEv, sLook, nbeq, i64_w]) ?_
      refine rw_val (v := .pointer (some ⟨g, 6, none⟩)) (w' := w) rfl rfl rfl rfl (by simp [go_sem, sEv, sLook, nbeq, i64_w, Try.underlying74]) ?_
      refine rw_val (v := .int .i64 s.fl) (w' := w) rfl rfl rfl rfl (by have eb_ := hb; have e0_ := eb_.cellv (i := 6) (v := (.int .i64 s.fl : Value)) rfl; simp [go_sem, sEv, sLook, nbeq, i64_w, e0_]) ?_
      refine rw_val (v := .int .i64 (s.fl - 1)) (w' := w) rfl rfl rfl rfl (by simp [go_sem, sEv, sLook, nbeq, i64_w]; have := hl.1; have : ¬ s.fl = 0 := (by simpa using cL); exact wrap_id (by omega) (by omega)) ?_
      refine rw_val (v := .pointer (some ⟨g, 5, none⟩)) (w' := w) rfl rfl rfl rfl (by simp [go_sem, sEv, sLook, nbeq, i64_w]) ?_
      refine rw_val (v := .pointer (some ⟨g, 6, none⟩)) (w' := w) rfl rfl rfl rfl (by simp [go_sem, sEv, sLook, nbeq, i64_w, Try.underlying74]) ?_
      have hb4 := hb
      refine rw_store (g := g) (i := 6) (l := [.int .i64 (s.fl - 1)]) (cs' := #[.slice A n c, .int .i64 s.sure, .int .i64 s.steps, .bool s.ps, .int .i64 s.pl, .bool s.fs, .int .i64 (s.fl - 1), .bool s.dn]) rfl rfl rfl hb4 rfl (by have e0_ := hb4.cellv (i := 6) (v := (.int .i64 s.fl : Value)) rfl; have f0_ := hb4.frozen 6; simp [go_sem, sEv, sLook, nbeq, i64_w, putCells, e0_, f0_]) ?_
      intro w1 hk2 hk3
      have hs_w1 := hk2.size
      refine rw_end ?_
      refine w_weaken (G' := [(2, .bool false)]) ⟨rfl, trivial⟩ ?_
      refine w_seq ?_
      refine w_region ?_
      refine rw_val (v := .bool false) (w' := w1) rfl rfl rfl rfl rfl ?_
      refine rw_end ?_
      refine w_ret (post_ret1 rfl rfl ?_)
      have d_ : duel s.fs s.fl = s.fl - 1 := by unfold duel; simp [cS, cL]
      have b_ : (s.fs && (s.fl == 0)) = false := by simp [cS, cL]
      rw [d_, b_]
      exact ⟨rfl, hk2, hk3⟩
end Go.Proofs.Ytiiljpaedelhlaa.Tp
namespace Go.Proofs.Ytiiljpaedelhlaa.Tp
open Go.RowKit Go.Proofs.YtiiljpaedelhlaaW.PrintWords Go.Proofs.YtiiljpaedelhlaaW.PrintLast Go.Proofs.YtiiljpaedelhlaaW.PrintMore
open Go.Proofs.Ytiiljpaedelhlaa.Flow
set_option linter.unusedVariables false
set_option linter.unusedSimpArgs false

set_option maxHeartbeats 4000000 in
theorem step_raw (w0 w : World) (g m : Nat) (x : Nat → Prop) (hx : ∀ q, x q → q < w.heap.size) (s : TS) (A : Option Addr) (n c : Nat) (hB : Below w0.heap.size w0 w) (hg0 : w0.heap.size ≤ g) (hm : g < m ∧ m ≤ w.heap.size) (hb : Blk w g 76 (tcells A n c s)) (hR : BR .u8 5 w w0.heap.size (fun q => g < q ∧ q < m ∧ ¬ x q) A n c s.xs) (hok : s.Ok)  :
    Calls Try.prog 50 #[.pointer (some ⟨g, 0, none⟩)] w fun e w' => e = .returned (errT s.err) ∧ TapeAt w0 w' g m x s.next ∧ w.heap.size ≤ w'.heap.size ∧ (∀ q, x q → q ≠ g → w'.heap[q]? = w.heap[q]?) ∧ Keep g w w' := by
  refine calls_flow Try.func50 rfl 39 rfl (Nat.le_of_ble_eq_true rfl) [(0, .pointer (some ⟨g, 0, none⟩))] ?_ ?_
  · intro t v h; exact args_look rfl t v h
  refine w_seq ?_
  refine w_region ?_
  refine rw_val (v := .nilIface) (w' := w) rfl rfl rfl rfl rfl ?_
  refine rw_end ?_
  refine w_seq ?_
  refine w_seq ?_
  refine w_region ?_
  refine rw_val (v := .pointer (some ⟨g, 0, none⟩)) (w' := w) rfl rfl rfl rfl rfl ?_
  refine rw_val (v := .bool false) (w' := w) rfl rfl rfl rfl (run_as (run_ptr_eql (e := 76) (by kernel_rfl) _ _)) ?_
  refine rw_val (v := .bool false) (w' := w) rfl rfl rfl rfl rfl ?_
  refine rw_gval (c := false) (v := .pointer (some ⟨g, 0, none⟩)) (w' := w) rfl rfl rfl rfl rfl rfl rfl (by rfl) ?_
  refine rw_gval (c := false) (v := .pointer (some ⟨g, 0, none⟩)) (w' := w) rfl rfl rfl rfl rfl rfl rfl (by simp [go_sem, sEv, sLook, nbeq, i64_w]) ?_
  refine rw_gval (c := false) (v := .pointer (some ⟨g, 7, none⟩)) (w' := w) rfl rfl rfl rfl rfl rfl rfl (by simp [go_sem, sEv, sLook, nbeq, i64_w, Try.underlying76]) ?_
  refine rw_gval (c := false) (v := .bool s.dn) (w' := w) rfl rfl rfl rfl rfl rfl rfl (by have eb_ := hb; have e0_ := eb_.cellv (i := 7) (v := (.bool s.dn : Value)) rfl; simp [go_sem, sEv, sLook, nbeq, i64_w, e0_]) ?_
  refine rw_val (v := .bool s.dn) (w' := w) rfl rfl rfl rfl (by simp [go_sem, sEv, sLook, nbeq, i64_w]) ?_
  refine rw_val (v := .bool s.dn) (w' := w) rfl rfl rfl rfl rfl ?_
  rcases bcase s.dn with cDn | cDn
  · refine rw_gval (c := s.dn) (v := .pointer (some ⟨g, 0, none⟩)) (w' := w) rfl rfl rfl (by simp [cDn]) rfl rfl rfl (by rfl) ?_
    refine rw_gval (c := s.dn) (v := .pointer (some ⟨g, 0, none⟩)) (w' := w) rfl rfl rfl (by simp [cDn]) rfl rfl rfl (by simp [go_sem, sEv, sLook, nbeq, i64_w]) ?_
    refine rw_gval (c := s.dn) (v := .pointer (some ⟨g, 3, none⟩)) (w' := w) rfl rfl rfl (by simp [cDn]) rfl rfl rfl (by simp [go_sem, sEv, sLook, nbeq, i64_w, Try.underlying76]) ?_
    refine rw_gcall (c := s.dn) rfl rfl rfl (by simp [cDn]) rfl rfl rfl (f := 58) (args := #[.pointer (some ⟨g, 3, none⟩)]) (by simp [go_sem, sEv, sLook, nbeq, i64_w]) (due3_calls w g ⟨s.xs, s.sure, s.steps, s.ps, s.pl, s.fs, s.fl, s.dn⟩ A n c hb hok.pl) ?_
    rintro e_ w1 ⟨rfl, hk2, hb3⟩
    refine ⟨.bool (s.ps && (s.pl == 0)), rfl, ?_⟩
    have hs_w1 := hk2.size
    refine rw_val (v := .bool (s.ps && (s.pl == 0))) (w' := w1) rfl rfl rfl rfl (by simp [go_sem, sEv, sLook, nbeq, i64_w, cDn]) ?_
    refine rw_end ?_
    refine w_weaken (G' := [(0, .pointer (some ⟨g, 0, none⟩)), (2, .nilIface), (16, .bool (s.ps && (s.pl == 0)))]) ⟨rfl, rfl, rfl, trivial⟩ ?_
    refine w_cond rfl rfl (fun cP => ?_) (fun cP => ?_)
    · refine w_seq ?_
      refine w_seq ?_
      refine w_region ?_
      refine rw_val (v := .pointer (some ⟨g, 0, none⟩)) (w' := w1) rfl rfl rfl rfl rfl ?_
      refine rw_val (v := .bool true) (w' := w1) rfl rfl rfl rfl (run_as (run_ptr_neq (e := 76) (by kernel_rfl) _ _)) ?_
      refine rw_end ?_
      refine w_cond_t rfl rfl rfl ?_
      refine w_region ?_
      refine rw_val (v := .pointer (some ⟨g, 0, none⟩)) (w' := w1) rfl rfl rfl rfl rfl ?_
      refine rw_val (v := .pointer (some ⟨g, 0, none⟩)) (w' := w1) rfl rfl rfl rfl (by simp [go_sem, sEv, sLook, nbeq, i64_w]) ?_
      refine rw_val (v := .pointer (some ⟨g, 7, none⟩)) (w' := w1) rfl rfl rfl rfl (by simp [go_sem, sEv, sLook, nbeq, i64_w, Try.underlying76]) ?_
      have hb7 := hb3
      refine rw_store (g := g) (i := 7) (l := [.bool true]) (cs' := #[.slice A n c, .int .i64 s.sure, .int .i64 s.steps, .bool s.ps, .int .i64 (duel s.ps s.pl), .bool s.fs, .int .i64 s.fl, .bool true]) rfl rfl rfl hb7 rfl (by have e0_ := hb7.cellv (i := 7) (v := (.bool s.dn : Value)) rfl; have f0_ := hb7.frozen 7; simp [go_sem, sEv, sLook, nbeq, i64_w, putCells, e0_, f0_]) ?_
      intro w4 hk5 hk6
      have hs_w4 := hk5.size
      refine rw_end ?_
      refine w_weaken (G' := [(0, .pointer (some ⟨g, 0, none⟩)), (2, .nilIface)]) ⟨rfl, rfl, trivial⟩ ?_
      refine w_seq ?_
      refine w_region ?_
      refine rw_val (v := errT (some 5)) (w' := w4) rfl rfl rfl rfl (by simp [go_sem, sEv, sLook, nbeq, i64_w, errT]) ?_
      refine rw_val (v := errT (some 5)) (w' := w4) rfl rfl rfl rfl rfl ?_
      refine rw_end ?_
      refine w_ret (post_ret1 rfl rfl ?_)
      have e1_ : s.err = some 5 := by unfold TS.err; simp [cDn, cP]
      rw [e1_]
      have e2_ : s.next = ⟨s.xs, s.sure, s.steps, s.ps, duel s.ps s.pl, s.fs, s.fl, true⟩ := by have d_ : duel s.ps s.pl = s.pl := (by unfold duel; simp at cP; simp [cP]); rw [TS.next, if_neg (by simp [cDn]), if_pos cP, d_]
      rw [e2_]
      refine ⟨rfl, TapeAt.mkm (s := ⟨s.xs, s.sure, s.steps, s.ps, duel s.ps s.pl, s.fs, s.fl, true⟩) (hk5.below (by omega) (hk2.below (by omega) hB)) hg0 hk6 (BR.step (BR.step hR (fun q hq _ => hk2.block q (by have := hq.1; omega))) (fun q hq _ => hk5.block q (by have := hq.1; omega))) (fun q hq => hq) ⟨by omega, by omega⟩, by omega, (fun q hxq hxg => ((hk5.block q hxg).trans (hk2.block q hxg))), (hk2.trans hk5)⟩
    · refine w_skip ?_
      refine w_seq ?_
      refine w_region ?_
      refine rw_val (v := .pointer (some ⟨g, 0, none⟩)) (w' := w1) rfl rfl rfl rfl rfl ?_
      refine rw_val (v := .pointer (some ⟨g, 0, none⟩)) (w' := w1) rfl rfl rfl rfl (by simp [go_sem, sEv, sLook, nbeq, i64_w]) ?_
      refine rw_val (v := .pointer (some ⟨g, 2, none⟩)) (w' := w1) rfl rfl rfl rfl (by simp [go_sem, sEv, sLook, nbeq, i64_w, Try.underlying76]) ?_
      refine rw_val (v := .int .i64 s.steps) (w' := w1) rfl rfl rfl rfl (by have eb_ := hb3; have e0_ := eb_.cellv (i := 2) (v := (.int .i64 s.steps : Value)) rfl; simp [go_sem, sEv, sLook, nbeq, i64_w, e0_]) ?_
      refine rw_val (v := .int .i64 (s.steps + 1)) (w' := w1) rfl rfl rfl rfl (by simp [go_sem, sEv, sLook, nbeq, i64_w]; have := hok.steps; exact wrap_id (by omega) (by omega)) ?_
      refine rw_val (v := .pointer (some ⟨g, 0, none⟩)) (w' := w1) rfl rfl rfl rfl (by simp [go_sem, sEv, sLook, nbeq, i64_w]) ?_
      refine rw_val (v := .pointer (some ⟨g, 2, none⟩)) (w' := w1) rfl rfl rfl rfl (by simp [go_sem, sEv, sLook, nbeq, i64_w, Try.underlying76]) ?_
      have hb11 := hb3
      refine rw_store (g := g) (i := 2) (l := [.int .i64 (s.steps + 1)]) (cs' := #[.slice A n c, .int .i64 s.sure, .int .i64 (s.steps + 1), .bool s.ps, .int .i64 (duel s.ps s.pl), .bool s.fs, .int .i64 s.fl, .bool s.dn]) rfl rfl rfl hb11 rfl (by have e0_ := hb11.cellv (i := 2) (v := (.int .i64 s.steps : Value)) rfl; have f0_ := hb11.frozen 2; simp [go_sem, sEv, sLook, nbeq, i64_w, putCells, e0_, f0_]) ?_
      intro w8 hk9 hk10
      have hs_w8 := hk9.size
      refine rw_end ?_
      refine w_weaken (G' := [(0, .pointer (some ⟨g, 0, none⟩)), (2, .nilIface)]) ⟨rfl, rfl, trivial⟩ ?_
      refine w_seq ?_
      refine w_seq ?_
      refine w_region ?_
      refine rw_val (v := .pointer (some ⟨g, 0, none⟩)) (w' := w8) rfl rfl rfl rfl rfl ?_
      refine rw_val (v := .pointer (some ⟨g, 0, none⟩)) (w' := w8) rfl rfl rfl rfl (by simp [go_sem, sEv, sLook, nbeq, i64_w]) ?_
      refine rw_val (v := .pointer (some ⟨g, 5, none⟩)) (w' := w8) rfl rfl rfl rfl (by simp [go_sem, sEv, sLook, nbeq, i64_w, Try.underlying76]) ?_
      refine rw_call rfl rfl rfl rfl (f := 58) (args := #[.pointer (some ⟨g, 5, none⟩)]) (by simp [go_sem, sEv, sLook, nbeq, i64_w]) (due5_calls w8 g ⟨s.xs, s.sure, s.steps + 1, s.ps, duel s.ps s.pl, s.fs, s.fl, s.dn⟩ A n c hk10 hok.fl) ?_
      rintro e_ w12 ⟨rfl, hk13, hb14⟩
      refine ⟨.bool (s.fs && (s.fl == 0)), rfl, ?_⟩
      have hs_w12 := hk13.size
      refine rw_end ?_
      refine w_weaken (G' := [(0, .pointer (some ⟨g, 0, none⟩)), (2, .nilIface), (33, .bool (s.fs && (s.fl == 0)))]) ⟨rfl, rfl, rfl, trivial⟩ ?_
      refine w_cond rfl rfl (fun cF => ?_) (fun cF => ?_)
      · refine w_seq ?_
        refine w_region ?_
        refine rw_val (v := .pointer (some ⟨g, 0, none⟩)) (w' := w12) rfl rfl rfl rfl rfl ?_
        refine rw_val (v := .agg #[.bool false, .int .i64 0]) (w' := w12) rfl rfl rfl rfl (by kernel_rfl) ?_
        refine rw_val (v := .pointer (some ⟨g, 0, none⟩)) (w' := w12) rfl rfl rfl rfl (by simp [go_sem, sEv, sLook, nbeq, i64_w]) ?_
        refine rw_val (v := .pointer (some ⟨g, 5, none⟩)) (w' := w12) rfl rfl rfl rfl (by simp [go_sem, sEv, sLook, nbeq, i64_w, Try.underlying76]) ?_
        have hb18 := hb14
        refine rw_store (g := g) (i := 5) (l := [.bool false, .int .i64 0]) (cs' := #[.slice A n c, .int .i64 s.sure, .int .i64 (s.steps + 1), .bool s.ps, .int .i64 (duel s.ps s.pl), .bool false, .int .i64 0, .bool s.dn]) rfl rfl rfl hb18 rfl (by have e0_ := hb18.cellv (i := 5) (v := (.bool s.fs : Value)) rfl; have f0_ := hb18.frozen 5; have e1_ := hb18.cellv (i := 6) (v := (.int .i64 (duel s.fs s.fl) : Value)) rfl; have f1_ := hb18.frozen 6; simp [go_sem, sEv, sLook, nbeq, i64_w, putCells, e0_, f0_, e1_, f1_, Try.underlying74]) ?_
        intro w15 hk16 hk17
        have hs_w15 := hk16.size
        refine rw_end ?_
        refine w_weaken (G' := [(2, .nilIface)]) ⟨rfl, trivial⟩ ?_
        refine w_seq ?_
        refine w_region ?_
        refine rw_val (v := errT (some 6)) (w' := w15) rfl rfl rfl rfl (by simp [go_sem, sEv, sLook, nbeq, i64_w, errT]) ?_
        refine rw_val (v := errT (some 6)) (w' := w15) rfl rfl rfl rfl rfl ?_
        refine rw_end ?_
        refine w_ret (post_ret1 rfl rfl ?_)
        have e1_ : s.err = some 6 := by unfold TS.err; simp [cDn, cP, cF]
        rw [e1_]
        have e2_ : s.next = ⟨s.xs, s.sure, s.steps + 1, s.ps, duel s.ps s.pl, false, 0, s.dn⟩ := by rw [TS.next, if_neg (by simp [cDn]), if_neg (by rw [cP]; decide), if_pos cF]
        rw [e2_]
        refine ⟨rfl, TapeAt.mkm (s := ⟨s.xs, s.sure, s.steps + 1, s.ps, duel s.ps s.pl, false, 0, s.dn⟩) (hk16.below (by omega) (hk13.below (by omega) (hk9.below (by omega) (hk2.below (by omega) hB)))) hg0 hk17 (BR.step (BR.step (BR.step (BR.step hR (fun q hq _ => hk2.block q (by have := hq.1; omega))) (fun q hq _ => hk9.block q (by have := hq.1; omega))) (fun q hq _ => hk13.block q (by have := hq.1; omega))) (fun q hq _ => hk16.block q (by have := hq.1; omega))) (fun q hq => hq) ⟨by omega, by omega⟩, by omega, (fun q hxq hxg => ((hk16.block q hxg).trans ((hk13.block q hxg).trans ((hk9.block q hxg).trans (hk2.block q hxg))))), (((hk2.trans hk9).trans hk13).trans hk16)⟩
      · refine w_skip ?_
        refine w_seq ?_
        refine w_region ?_
        refine rw_val (v := .nilIface) (w' := w12) rfl rfl rfl rfl rfl ?_
        refine rw_end ?_
        refine w_ret (post_ret1 rfl rfl ?_)
        have e1_ : s.err = none := by unfold TS.err; simp [cDn, cP, cF]
        rw [e1_]
        have e2_ : s.next = ⟨s.xs, s.sure, s.steps + 1, s.ps, duel s.ps s.pl, s.fs, duel s.fs s.fl, s.dn⟩ := by rw [TS.next, if_neg (by simp [cDn]), if_neg (by rw [cP]; decide), if_neg (by rw [cF]; decide)]
        rw [e2_]
        refine ⟨rfl, TapeAt.mkm (s := ⟨s.xs, s.sure, s.steps + 1, s.ps, duel s.ps s.pl, s.fs, duel s.fs s.fl, s.dn⟩) (hk13.below (by omega) (hk9.below (by omega) (hk2.below (by omega) hB))) hg0 hb14 (BR.step (BR.step (BR.step hR (fun q hq _ => hk2.block q (by have := hq.1; omega))) (fun q hq _ => hk9.block q (by have := hq.1; omega))) (fun q hq _ => hk13.block q (by have := hq.1; omega))) (fun q hq => hq) ⟨by omega, by omega⟩, by omega, (fun q hxq hxg => ((hk13.block q hxg).trans ((hk9.block q hxg).trans (hk2.block q hxg)))), ((hk2.trans hk9).trans hk13)⟩
  · refine rw_off (c := s.dn) rfl rfl rfl (by simp [cDn]) rfl rfl ?_
    refine rw_off (c := s.dn) rfl rfl rfl (by simp [cDn]) rfl rfl ?_
    refine rw_off (c := s.dn) rfl rfl rfl (by simp [cDn]) rfl rfl ?_
    refine rw_off (c := s.dn) rfl rfl rfl (by simp [cDn]) rfl rfl ?_
    refine rw_val (v := .bool true) (w' := w) rfl rfl rfl rfl (by simp [go_sem, sEv, sLook, nbeq, i64_w, cDn]) ?_
    refine rw_end ?_
    refine w_weaken (G' := [(0, .pointer (some ⟨g, 0, none⟩)), (2, .nilIface), (16, .bool true)]) ⟨rfl, rfl, rfl, trivial⟩ ?_
    refine w_cond_t rfl rfl rfl ?_
    refine w_seq ?_
    refine w_seq ?_
    refine w_region ?_
    refine rw_val (v := .pointer (some ⟨g, 0, none⟩)) (w' := w) rfl rfl rfl rfl rfl ?_
    refine rw_val (v := .bool true) (w' := w) rfl rfl rfl rfl (run_as (run_ptr_neq (e := 76) (by kernel_rfl) _ _)) ?_
    refine rw_end ?_
    refine w_cond_t rfl rfl rfl ?_
    refine w_region ?_
    refine rw_val (v := .pointer (some ⟨g, 0, none⟩)) (w' := w) rfl rfl rfl rfl rfl ?_
    refine rw_val (v := .pointer (some ⟨g, 0, none⟩)) (w' := w) rfl rfl rfl rfl (by simp [go_sem, sEv, sLook, nbeq, i64_w]) ?_
    refine rw_val (v := .pointer (some ⟨g, 7, none⟩)) (w' := w) rfl rfl rfl rfl (by simp [go_sem, sEv, sLook, nbeq, i64_w, Try.underlying76]) ?_
    have hb22 := hb
    refine rw_store (g := g) (i := 7) (l := [.bool true]) (cs' := #[.slice A n c, .int .i64 s.sure, .int .i64 s.steps, .bool s.ps, .int .i64 s.pl, .bool s.fs, .int .i64 s.fl, .bool true]) rfl rfl rfl hb22 rfl (by have e0_ := hb22.cellv (i := 7) (v := (.bool s.dn : Value)) rfl; have f0_ := hb22.frozen 7; simp [go_sem, sEv, sLook, nbeq, i64_w, putCells, e0_, f0_]) ?_
    intro w19 hk20 hk21
    have hs_w19 := hk20.size
    refine rw_end ?_
    refine w_weaken (G' := [(0, .pointer (some ⟨g, 0, none⟩)), (2, .nilIface)]) ⟨rfl, rfl, trivial⟩ ?_
    refine w_seq ?_
    refine w_region ?_
    refine rw_val (v := errT (some 5)) (w' := w19) rfl rfl rfl rfl (by simp [go_sem, sEv, sLook, nbeq, i64_w, errT]) ?_
    refine rw_val (v := errT (some 5)) (w' := w19) rfl rfl rfl rfl rfl ?_
    refine rw_end ?_
    refine w_ret (post_ret1 rfl rfl ?_)
    have e1_ : s.err = some 5 := by unfold TS.err; simp [cDn]
    rw [e1_]
    have e2_ : s.next = ⟨s.xs, s.sure, s.steps, s.ps, s.pl, s.fs, s.fl, true⟩ := by rw [TS.next, if_pos cDn]; cases s; simp only at cDn; subst cDn; rfl
    rw [e2_]
    refine ⟨rfl, TapeAt.mkm (s := ⟨s.xs, s.sure, s.steps, s.ps, s.pl, s.fs, s.fl, true⟩) (hk20.below (by omega) hB) hg0 hk21 (BR.step hR (fun q hq _ => hk20.block q (by have := hq.1; omega))) (fun q hq => hq) ⟨by omega, by omega⟩, by omega, (fun q hxq hxg => (hk20.block q hxg)), hk20⟩
theorem step_T (w0 w : World) (g m : Nat) (x : Nat → Prop) (hx : ∀ q, x q → q < w.heap.size) (s : TS) (hT : TapeAt w0 w g m x s) (hok : s.Ok)  : Calls Try.prog 50 #[.pointer (some ⟨g, 0, none⟩)] w fun e w' => e = .returned (errT s.err) ∧ TapeAt w0 w' g m x s.next ∧ w.heap.size ≤ w'.heap.size ∧ (∀ q, x q → q ≠ g → w'.heap[q]? = w.heap[q]?) ∧ Keep g w w' := by
  obtain ⟨hB, hg0, hm, A, n, c, hb, hR⟩ := hT
  exact step_raw w0 w g m x hx s A n c hB hg0 hm hb hR hok
set_option maxHeartbeats 4000000 in
theorem steps_raw (w0 w : World) (g m : Nat) (x : Nat → Prop) (hx : ∀ q, x q → q < w.heap.size) (s : TS) (A : Option Addr) (n c : Nat) (hB : Below w0.heap.size w0 w) (hg0 : w0.heap.size ≤ g) (hm : g < m ∧ m ≤ w.heap.size) (hb : Blk w g 76 (tcells A n c s)) (hR : BR .u8 5 w w0.heap.size (fun q => g < q ∧ q < m ∧ ¬ x q) A n c s.xs) (hok : s.Ok) :
    Calls Try.prog 24 #[.pointer (some ⟨g, 0, none⟩)] w fun e w' => e = .returned (.int .i64 s.steps) ∧ w = w' := by
  refine calls_flow Try.func24 rfl 9 rfl (Nat.le_of_ble_eq_true rfl) [(0, .pointer (some ⟨g, 0, none⟩))] ?_ ?_
  · intro t v h; exact args_look rfl t v h
  refine w_seq ?_
  refine w_region ?_
  refine rw_val (v := .int .i64 0) (w' := w) rfl rfl rfl rfl rfl ?_
  refine rw_end ?_
  refine w_seq ?_
  refine w_seq ?_
  refine w_region ?_
  refine rw_val (v := .pointer (some ⟨g, 0, none⟩)) (w' := w) rfl rfl rfl rfl rfl ?_
  refine rw_val (v := .bool false) (w' := w) rfl rfl rfl rfl (run_as (run_ptr_eql (e := 76) (by kernel_rfl) _ _)) ?_
  refine rw_end ?_
  refine w_cond_f rfl rfl rfl ?_
  refine w_skip ?_
  refine w_seq ?_
  refine w_region ?_
  refine rw_val (v := .pointer (some ⟨g, 0, none⟩)) (w' := w) rfl rfl rfl rfl rfl ?_
  refine rw_val (v := .pointer (some ⟨g, 0, none⟩)) (w' := w) rfl rfl rfl rfl (by simp [go_sem, sEv, sLook, nbeq, i64_w]) ?_
  refine rw_val (v := .pointer (some ⟨g, 2, none⟩)) (w' := w) rfl rfl rfl rfl (by simp [go_sem, sEv, sLook, nbeq, i64_w, Try.underlying76]) ?_
  refine rw_val (v := .int .i64 s.steps) (w' := w) rfl rfl rfl rfl (by have eb_ := hb; have e0_ := eb_.cellv (i := 2) (v := (.int .i64 s.steps : Value)) rfl; simp [go_sem, sEv, sLook, nbeq, i64_w, e0_]) ?_
  refine rw_val (v := .int .i64 s.steps) (w' := w) rfl rfl rfl rfl rfl ?_
  refine rw_end ?_
  refine w_weaken (G' := [(2, .int .i64 s.steps)]) ⟨rfl, trivial⟩ ?_
  refine w_ret (post_ret1 rfl rfl ?_)
  exact ⟨rfl, rfl⟩
theorem steps_T (w0 w : World) (g m : Nat) (x : Nat → Prop) (hx : ∀ q, x q → q < w.heap.size) (s : TS) (hT : TapeAt w0 w g m x s) (hok : s.Ok) : Calls Try.prog 24 #[.pointer (some ⟨g, 0, none⟩)] w fun e w' => e = .returned (.int .i64 s.steps) ∧ w = w' := by
  obtain ⟨hB, hg0, hm, A, n, c, hb, hR⟩ := hT
  exact steps_raw w0 w g m x hx s A n c hB hg0 hm hb hR hok
set_option maxHeartbeats 4000000 in
theorem down_raw (w0 w : World) (g m : Nat) (x : Nat → Prop) (hx : ∀ q, x q → q < w.heap.size) (s : TS) (A : Option Addr) (n c : Nat) (hB : Below w0.heap.size w0 w) (hg0 : w0.heap.size ≤ g) (hm : g < m ∧ m ≤ w.heap.size) (hb : Blk w g 76 (tcells A n c s)) (hR : BR .u8 5 w w0.heap.size (fun q => g < q ∧ q < m ∧ ¬ x q) A n c s.xs) (hok : s.Ok) :
    Calls Try.prog 35 #[.pointer (some ⟨g, 0, none⟩)] w fun e w' => e = .returned (.bool s.dn) ∧ w = w' := by
  refine calls_flow Try.func35 rfl 11 rfl (Nat.le_of_ble_eq_true rfl) [(0, .pointer (some ⟨g, 0, none⟩))] ?_ ?_
  · intro t v h; exact args_look rfl t v h
  refine w_seq ?_
  refine w_region ?_
  refine rw_val (v := .bool false) (w' := w) rfl rfl rfl rfl rfl ?_
  refine rw_end ?_
  refine w_seq ?_
  refine w_region ?_
  refine rw_val (v := .pointer (some ⟨g, 0, none⟩)) (w' := w) rfl rfl rfl rfl rfl ?_
  refine rw_val (v := .bool false) (w' := w) rfl rfl rfl rfl (run_as (run_ptr_eql (e := 76) (by kernel_rfl) _ _)) ?_
  refine rw_val (v := .bool false) (w' := w) rfl rfl rfl rfl rfl ?_
  refine rw_gval (c := false) (v := .pointer (some ⟨g, 0, none⟩)) (w' := w) rfl rfl rfl rfl rfl rfl rfl (by rfl) ?_
  refine rw_gval (c := false) (v := .pointer (some ⟨g, 0, none⟩)) (w' := w) rfl rfl rfl rfl rfl rfl rfl (by simp [go_sem, sEv, sLook, nbeq, i64_w]) ?_
  refine rw_gval (c := false) (v := .pointer (some ⟨g, 7, none⟩)) (w' := w) rfl rfl rfl rfl rfl rfl rfl (by simp [go_sem, sEv, sLook, nbeq, i64_w, Try.underlying76]) ?_
  refine rw_gval (c := false) (v := .bool s.dn) (w' := w) rfl rfl rfl rfl rfl rfl rfl (by have eb_ := hb; have e0_ := eb_.cellv (i := 7) (v := (.bool s.dn : Value)) rfl; simp [go_sem, sEv, sLook, nbeq, i64_w, e0_]) ?_
  refine rw_val (v := .bool s.dn) (w' := w) rfl rfl rfl rfl (by simp [go_sem, sEv, sLook, nbeq, i64_w]) ?_
  refine rw_val (v := .bool s.dn) (w' := w) rfl rfl rfl rfl rfl ?_
  refine rw_end ?_
  refine w_weaken (G' := [(2, .bool s.dn)]) ⟨rfl, trivial⟩ ?_
  refine w_ret (post_ret1 rfl rfl ?_)
  exact ⟨rfl, rfl⟩
theorem down_T (w0 w : World) (g m : Nat) (x : Nat → Prop) (hx : ∀ q, x q → q < w.heap.size) (s : TS) (hT : TapeAt w0 w g m x s) (hok : s.Ok) : Calls Try.prog 35 #[.pointer (some ⟨g, 0, none⟩)] w fun e w' => e = .returned (.bool s.dn) ∧ w = w' := by
  obtain ⟨hB, hg0, hm, A, n, c, hb, hR⟩ := hT
  exact down_raw w0 w g m x hx s A n c hB hg0 hm hb hR hok
set_option maxHeartbeats 4000000 in
theorem length_raw (w0 w : World) (g m : Nat) (x : Nat → Prop) (hx : ∀ q, x q → q < w.heap.size) (s : TS) (A : Option Addr) (n c : Nat) (hB : Below w0.heap.size w0 w) (hg0 : w0.heap.size ≤ g) (hm : g < m ∧ m ≤ w.heap.size) (hb : Blk w g 76 (tcells A n c s)) (hR : BR .u8 5 w w0.heap.size (fun q => g < q ∧ q < m ∧ ¬ x q) A n c s.xs) (hok : s.Ok) :
    Calls Try.prog 53 #[.pointer (some ⟨g, 0, none⟩)] w fun e w' => e = .returned (.int .i64 (s.xs.length : Int)) ∧ w = w' := by
  refine calls_flow Try.func53 rfl 10 rfl (Nat.le_of_ble_eq_true rfl) [(0, .pointer (some ⟨g, 0, none⟩))] ?_ ?_
  · intro t v h; exact args_look rfl t v h
  refine w_seq ?_
  refine w_region ?_
  refine rw_val (v := .int .i64 0) (w' := w) rfl rfl rfl rfl rfl ?_
  refine rw_end ?_
  refine w_seq ?_
  refine w_seq ?_
  refine w_region ?_
  refine rw_val (v := .pointer (some ⟨g, 0, none⟩)) (w' := w) rfl rfl rfl rfl rfl ?_
  refine rw_val (v := .bool false) (w' := w) rfl rfl rfl rfl (run_as (run_ptr_eql (e := 76) (by kernel_rfl) _ _)) ?_
  refine rw_end ?_
  refine w_cond_f rfl rfl rfl ?_
  refine w_skip ?_
  refine w_seq ?_
  refine w_region ?_
  refine rw_val (v := .pointer (some ⟨g, 0, none⟩)) (w' := w) rfl rfl rfl rfl rfl ?_
  refine rw_val (v := .pointer (some ⟨g, 0, none⟩)) (w' := w) rfl rfl rfl rfl (by simp [go_sem, sEv, sLook, nbeq, i64_w]) ?_
  refine rw_val (v := .pointer (some ⟨g, 0, none⟩)) (w' := w) rfl rfl rfl rfl (by simp [go_sem, sEv, sLook, nbeq, i64_w, Try.underlying76]) ?_
  refine rw_val (v := .slice A n c) (w' := w) rfl rfl rfl rfl (by have eb_ := hb; have e0_ := eb_.cellv (i := 0) (v := (.slice A n c : Value)) rfl; simp [go_sem, sEv, sLook, nbeq, i64_w, e0_, Try.underlying32]) ?_
  refine rw_val (v := .int .i64 (s.xs.length : Int)) (w' := w) rfl rfl rfl rfl (by simp [go_sem, sEv, sLook, nbeq, i64_w]; rw [(BR.reads' hR).1]) ?_
  refine rw_val (v := .int .i64 (s.xs.length : Int)) (w' := w) rfl rfl rfl rfl rfl ?_
  refine rw_end ?_
  refine w_weaken (G' := [(2, .int .i64 (s.xs.length : Int))]) ⟨rfl, trivial⟩ ?_
  refine w_ret (post_ret1 rfl rfl ?_)
  exact ⟨rfl, rfl⟩
theorem length_T (w0 w : World) (g m : Nat) (x : Nat → Prop) (hx : ∀ q, x q → q < w.heap.size) (s : TS) (hT : TapeAt w0 w g m x s) (hok : s.Ok) : Calls Try.prog 53 #[.pointer (some ⟨g, 0, none⟩)] w fun e w' => e = .returned (.int .i64 (s.xs.length : Int)) ∧ w = w' := by
  obtain ⟨hB, hg0, hm, A, n, c, hb, hR⟩ := hT
  exact length_raw w0 w g m x hx s A n c hB hg0 hm hb hR hok
set_option maxHeartbeats 4000000 in
theorem arm_raw (w0 w : World) (g m : Nat) (x : Nat → Prop) (hx : ∀ q, x q → q < w.heap.size) (s : TS) (A : Option Addr) (n c : Nat) (hB : Below w0.heap.size w0 w) (hg0 : w0.heap.size ≤ g) (hm : g < m ∧ m ≤ w.heap.size) (hb : Blk w g 76 (tcells A n c s)) (hR : BR .u8 5 w w0.heap.size (fun q => g < q ∧ q < m ∧ ¬ x q) A n c s.xs) (hok : s.Ok) (k : Int) (cK : decide (k < 0) = false) :
    Calls Try.prog 19 #[.pointer (some ⟨g, 0, none⟩), .int .i64 k] w fun e w' => e = .returned .nilIface ∧ TapeAt w0 w' g w'.heap.size x ({ s with ps := true, pl := k }) ∧ w.heap.size ≤ w'.heap.size ∧ (∀ q, x q → q ≠ g → w'.heap[q]? = w.heap[q]?) := by
  refine calls_flow Try.func19 rfl 17 rfl (Nat.le_of_ble_eq_true rfl) [(0, .pointer (some ⟨g, 0, none⟩)), (1, .int .i64 k)] ?_ ?_
  · intro t v h; exact args_look rfl t v h
  refine w_seq ?_
  refine w_region ?_
  refine rw_val (v := .nilIface) (w' := w) rfl rfl rfl rfl rfl ?_
  refine rw_end ?_
  refine w_seq ?_
  refine w_seq ?_
  refine w_region ?_
  refine rw_val (v := .pointer (some ⟨g, 0, none⟩)) (w' := w) rfl rfl rfl rfl rfl ?_
  refine rw_val (v := .bool false) (w' := w) rfl rfl rfl rfl (run_as (run_ptr_eql (e := 76) (by kernel_rfl) _ _)) ?_
  refine rw_val (v := .bool false) (w' := w) rfl rfl rfl rfl rfl ?_
  refine rw_gval (c := false) (v := .int .i64 k) (w' := w) rfl rfl rfl rfl rfl rfl rfl (by rfl) ?_
  refine rw_gval (c := false) (v := .bool (decide (k < 0))) (w' := w) rfl rfl rfl rfl rfl rfl rfl (by simp [go_sem, sEv, sLook, nbeq, i64_w]) ?_
  refine rw_val (v := .bool (decide (k < 0))) (w' := w) rfl rfl rfl rfl (by simp [go_sem, sEv, sLook, nbeq, i64_w]) ?_
  refine rw_end ?_
  refine w_weaken (G' := [(0, .pointer (some ⟨g, 0, none⟩)), (1, .int .i64 k), (4, .nilIface), (10, .bool (decide (k < 0)))]) ⟨rfl, rfl, rfl, rfl, trivial⟩ ?_
  refine w_cond_f rfl rfl cK ?_
  refine w_skip ?_
  refine w_seq ?_
  refine w_region ?_
  refine rw_val (v := .pointer (some ⟨g, 0, none⟩)) (w' := w) rfl rfl rfl rfl rfl ?_
  refine rw_val (v := .int .i64 k) (w' := w) rfl rfl rfl rfl rfl ?_
  refine rw_val (v := .agg #[.bool true, .int .i64 k]) (w' := w) rfl rfl rfl rfl (by kernel_rfl) ?_
  refine rw_val (v := .pointer (some ⟨g, 0, none⟩)) (w' := w) rfl rfl rfl rfl (by simp [go_sem, sEv, sLook, nbeq, i64_w]) ?_
  refine rw_val (v := .pointer (some ⟨g, 3, none⟩)) (w' := w) rfl rfl rfl rfl (by simp [go_sem, sEv, sLook, nbeq, i64_w, Try.underlying76]) ?_
  have hb4 := hb
  refine rw_store (g := g) (i := 3) (l := [.bool true, .int .i64 k]) (cs' := #[.slice A n c, .int .i64 s.sure, .int .i64 s.steps, .bool true, .int .i64 k, .bool s.fs, .int .i64 s.fl, .bool s.dn]) rfl rfl rfl hb4 rfl (by have e0_ := hb4.cellv (i := 3) (v := (.bool s.ps : Value)) rfl; have f0_ := hb4.frozen 3; have e1_ := hb4.cellv (i := 4) (v := (.int .i64 s.pl : Value)) rfl; have f1_ := hb4.frozen 4; simp [go_sem, sEv, sLook, nbeq, i64_w, putCells, e0_, f0_, e1_, f1_, Try.underlying74]) ?_
  intro w1 hk2 hk3
  have hs_w1 := hk2.size
  refine rw_end ?_
  refine w_weaken (G' := [(4, .nilIface)]) ⟨rfl, trivial⟩ ?_
  refine w_seq ?_
  refine w_region ?_
  refine rw_val (v := .nilIface) (w' := w1) rfl rfl rfl rfl rfl ?_
  refine rw_end ?_
  refine w_ret (post_ret1 rfl rfl ?_)
  have e2_ : { s with ps := true, pl := k } = ⟨s.xs, s.sure, s.steps, true, k, s.fs, s.fl, s.dn⟩ := rfl
  rw [e2_]
  refine ⟨rfl, TapeAt.mk (s := ⟨s.xs, s.sure, s.steps, true, k, s.fs, s.fl, s.dn⟩) (hk2.below (by omega) hB) hg0 hk3 (BR.step hR (fun q hq _ => hk2.block q (by have := hq.1; omega))) (fun q hq => ⟨hq.1, hq.2.2⟩), by omega, (fun q hxq hxg => (hk2.block q hxg))⟩
theorem arm_T (w0 w : World) (g m : Nat) (x : Nat → Prop) (hx : ∀ q, x q → q < w.heap.size) (s : TS) (hT : TapeAt w0 w g m x s) (hok : s.Ok) (k : Int) (cK : decide (k < 0) = false) : Calls Try.prog 19 #[.pointer (some ⟨g, 0, none⟩), .int .i64 k] w fun e w' => e = .returned .nilIface ∧ TapeAt w0 w' g w'.heap.size x ({ s with ps := true, pl := k }) ∧ w.heap.size ≤ w'.heap.size ∧ (∀ q, x q → q ≠ g → w'.heap[q]? = w.heap[q]?) := by
  obtain ⟨hB, hg0, hm, A, n, c, hb, hR⟩ := hT
  exact arm_raw w0 w g m x hx s A n c hB hg0 hm hb hR hok k cK
set_option maxHeartbeats 4000000 in
theorem fail_raw (w0 w : World) (g m : Nat) (x : Nat → Prop) (hx : ∀ q, x q → q < w.heap.size) (s : TS) (A : Option Addr) (n c : Nat) (hB : Below w0.heap.size w0 w) (hg0 : w0.heap.size ≤ g) (hm : g < m ∧ m ≤ w.heap.size) (hb : Blk w g 76 (tcells A n c s)) (hR : BR .u8 5 w w0.heap.size (fun q => g < q ∧ q < m ∧ ¬ x q) A n c s.xs) (hok : s.Ok) (k : Int) (cK : decide (k < 0) = false) :
    Calls Try.prog 20 #[.pointer (some ⟨g, 0, none⟩), .int .i64 k] w fun e w' => e = .returned .nilIface ∧ TapeAt w0 w' g w'.heap.size x ({ s with fs := true, fl := k }) ∧ w.heap.size ≤ w'.heap.size ∧ (∀ q, x q → q ≠ g → w'.heap[q]? = w.heap[q]?) := by
  refine calls_flow Try.func20 rfl 17 rfl (Nat.le_of_ble_eq_true rfl) [(0, .pointer (some ⟨g, 0, none⟩)), (1, .int .i64 k)] ?_ ?_
  · intro t v h; exact args_look rfl t v h
  refine w_seq ?_
  refine w_region ?_
  refine rw_val (v := .nilIface) (w' := w) rfl rfl rfl rfl rfl ?_
  refine rw_end ?_
  refine w_seq ?_
  refine w_seq ?_
  refine w_region ?_
  refine rw_val (v := .pointer (some ⟨g, 0, none⟩)) (w' := w) rfl rfl rfl rfl rfl ?_
  refine rw_val (v := .bool false) (w' := w) rfl rfl rfl rfl (run_as (run_ptr_eql (e := 76) (by kernel_rfl) _ _)) ?_
  refine rw_val (v := .bool false) (w' := w) rfl rfl rfl rfl rfl ?_
  refine rw_gval (c := false) (v := .int .i64 k) (w' := w) rfl rfl rfl rfl rfl rfl rfl (by rfl) ?_
  refine rw_gval (c := false) (v := .bool (decide (k < 0))) (w' := w) rfl rfl rfl rfl rfl rfl rfl (by simp [go_sem, sEv, sLook, nbeq, i64_w]) ?_
  refine rw_val (v := .bool (decide (k < 0))) (w' := w) rfl rfl rfl rfl (by simp [go_sem, sEv, sLook, nbeq, i64_w]) ?_
  refine rw_end ?_
  refine w_weaken (G' := [(0, .pointer (some ⟨g, 0, none⟩)), (1, .int .i64 k), (4, .nilIface), (10, .bool (decide (k < 0)))]) ⟨rfl, rfl, rfl, rfl, trivial⟩ ?_
  refine w_cond_f rfl rfl cK ?_
  refine w_skip ?_
  refine w_seq ?_
  refine w_region ?_
  refine rw_val (v := .pointer (some ⟨g, 0, none⟩)) (w' := w) rfl rfl rfl rfl rfl ?_
  refine rw_val (v := .int .i64 k) (w' := w) rfl rfl rfl rfl rfl ?_
  refine rw_val (v := .agg #[.bool true, .int .i64 k]) (w' := w) rfl rfl rfl rfl (by kernel_rfl) ?_
  refine rw_val (v := .pointer (some ⟨g, 0, none⟩)) (w' := w) rfl rfl rfl rfl (by simp [go_sem, sEv, sLook, nbeq, i64_w]) ?_
  refine rw_val (v := .pointer (some ⟨g, 5, none⟩)) (w' := w) rfl rfl rfl rfl (by simp [go_sem, sEv, sLook, nbeq, i64_w, Try.underlying76]) ?_
  have hb4 := hb
  refine rw_store (g := g) (i := 5) (l := [.bool true, .int .i64 k]) (cs' := #[.slice A n c, .int .i64 s.sure, .int .i64 s.steps, .bool s.ps, .int .i64 s.pl, .bool true, .int .i64 k, .bool s.dn]) rfl rfl rfl hb4 rfl (by have e0_ := hb4.cellv (i := 5) (v := (.bool s.fs : Value)) rfl; have f0_ := hb4.frozen 5; have e1_ := hb4.cellv (i := 6) (v := (.int .i64 s.fl : Value)) rfl; have f1_ := hb4.frozen 6; simp [go_sem, sEv, sLook, nbeq, i64_w, putCells, e0_, f0_, e1_, f1_, Try.underlying74]) ?_
  intro w1 hk2 hk3
  have hs_w1 := hk2.size
  refine rw_end ?_
  refine w_weaken (G' := [(4, .nilIface)]) ⟨rfl, trivial⟩ ?_
  refine w_seq ?_
  refine w_region ?_
  refine rw_val (v := .nilIface) (w' := w1) rfl rfl rfl rfl rfl ?_
  refine rw_end ?_
  refine w_ret (post_ret1 rfl rfl ?_)
  have e2_ : { s with fs := true, fl := k } = ⟨s.xs, s.sure, s.steps, s.ps, s.pl, true, k, s.dn⟩ := rfl
  rw [e2_]
  refine ⟨rfl, TapeAt.mk (s := ⟨s.xs, s.sure, s.steps, s.ps, s.pl, true, k, s.dn⟩) (hk2.below (by omega) hB) hg0 hk3 (BR.step hR (fun q hq _ => hk2.block q (by have := hq.1; omega))) (fun q hq => ⟨hq.1, hq.2.2⟩), by omega, (fun q hxq hxg => (hk2.block q hxg))⟩
theorem fail_T (w0 w : World) (g m : Nat) (x : Nat → Prop) (hx : ∀ q, x q → q < w.heap.size) (s : TS) (hT : TapeAt w0 w g m x s) (hok : s.Ok) (k : Int) (cK : decide (k < 0) = false) : Calls Try.prog 20 #[.pointer (some ⟨g, 0, none⟩), .int .i64 k] w fun e w' => e = .returned .nilIface ∧ TapeAt w0 w' g w'.heap.size x ({ s with fs := true, fl := k }) ∧ w.heap.size ≤ w'.heap.size ∧ (∀ q, x q → q ≠ g → w'.heap[q]? = w.heap[q]?) := by
  obtain ⟨hB, hg0, hm, A, n, c, hb, hR⟩ := hT
  exact fail_raw w0 w g m x hx s A n c hB hg0 hm hb hR hok k cK

def TS.sync (s : TS) : TS := if s.err.isSome then s.next else { s.next with sure := (s.xs.length : Int) }
set_option maxHeartbeats 4000000 in
theorem sync_raw (w0 w : World) (g m : Nat) (x : Nat → Prop) (hx : ∀ q, x q → q < w.heap.size) (s : TS) (A : Option Addr) (n c : Nat) (hB : Below w0.heap.size w0 w) (hg0 : w0.heap.size ≤ g) (hm : g < m ∧ m ≤ w.heap.size) (hb : Blk w g 76 (tcells A n c s)) (hR : BR .u8 5 w w0.heap.size (fun q => g < q ∧ q < m ∧ ¬ x q) A n c s.xs) (hok : s.Ok)  :
    Calls Try.prog 40 #[.pointer (some ⟨g, 0, none⟩)] w fun e w' => e = .returned (errT s.err) ∧ TapeAt w0 w' g w'.heap.size x s.sync ∧ w.heap.size ≤ w'.heap.size ∧ (∀ q, x q → q ≠ g → w'.heap[q]? = w.heap[q]?) := by
  refine calls_flow Try.func40 rfl 17 rfl (Nat.le_of_ble_eq_true rfl) [(0, .pointer (some ⟨g, 0, none⟩))] ?_ ?_
  · intro t v h; exact args_look rfl t v h
  refine w_seq ?_
  refine w_region ?_
  refine rw_val (v := .nilIface) (w' := w) rfl rfl rfl rfl rfl ?_
  refine rw_end ?_
  refine w_seq ?_
  refine w_seq ?_
  refine w_region ?_
  refine rw_val (v := .pointer (some ⟨g, 0, none⟩)) (w' := w) rfl rfl rfl rfl rfl ?_
  refine rw_call rfl rfl rfl rfl (f := 50) (args := #[.pointer (some ⟨g, 0, none⟩)]) (by simp [go_sem, sEv, sLook, nbeq, i64_w]) (step_raw w0 w g m x (fun q h_ => by have := hx q h_; omega) s A n c hB hg0 ⟨by omega, by omega⟩ hb hR hok) ?_
  rintro e_ w1 ⟨rfl, hT2, hs3, _, hkp4⟩
  refine ⟨_, rfl, ?_⟩
  obtain ⟨hB5, hg6, hm7, A8, n9, c10, hb11, hR12⟩ := hT2
  refine rw_val (v := errT s.err) (w' := w1) rfl rfl rfl rfl rfl ?_
  refine rw_end ?_
  refine w_seq ?_
  refine w_region ?_
  refine rw_val (v := errT s.err) (w' := w1) rfl rfl rfl rfl rfl ?_
  refine rw_val (v := .bool s.err.isSome) (w' := w1) rfl rfl rfl rfl (run_as (guard_err_neq _ _ _)) ?_
  refine rw_end ?_
  refine w_cond rfl rfl (fun cE => ?_) (fun cE => ?_)
  · refine w_seq ?_
    refine w_region ?_
    refine rw_val (v := errT s.err) (w' := w1) rfl rfl rfl rfl rfl ?_
    refine rw_val (v := errT s.err) (w' := w1) rfl rfl rfl rfl rfl ?_
    refine rw_end ?_
    refine w_ret (post_ret1 rfl rfl ?_)
    rw [TS.sync, if_pos cE]
    have e2_ : s.next = ⟨s.next.xs, s.next.sure, s.next.steps, s.next.ps, s.next.pl, s.next.fs, s.next.fl, s.next.dn⟩ := rfl
    rw [e2_]
    refine ⟨rfl, TapeAt.mk (s := ⟨s.next.xs, s.next.sure, s.next.steps, s.next.ps, s.next.pl, s.next.fs, s.next.fl, s.next.dn⟩) hB5 hg0 hb11 hR12 (fun q hq => ⟨hq.1, hq.2.2⟩), by omega, (fun q hxq hxg => (hkp4.block q hxg))⟩
  · refine w_skip ?_
    refine w_seq ?_
    refine w_region ?_
    refine rw_val (v := .pointer (some ⟨g, 0, none⟩)) (w' := w1) rfl rfl rfl rfl rfl ?_
    refine rw_val (v := .pointer (some ⟨g, 0, none⟩)) (w' := w1) rfl rfl rfl rfl rfl ?_
    refine rw_val (v := .pointer (some ⟨g, 0, none⟩)) (w' := w1) rfl rfl rfl rfl (by simp [go_sem, sEv, sLook, nbeq, i64_w]) ?_
    refine rw_val (v := .pointer (some ⟨g, 0, none⟩)) (w' := w1) rfl rfl rfl rfl (by simp [go_sem, sEv, sLook, nbeq, i64_w, Try.underlying76]) ?_
    refine rw_val (v := .slice A8 n9 c10) (w' := w1) rfl rfl rfl rfl (by have eb_ := hb11; have e0_ := eb_.cellv (i := 0) (v := (.slice A8 n9 c10 : Value)) rfl; simp [go_sem, sEv, sLook, nbeq, i64_w, e0_, Try.underlying32]) ?_
    refine rw_val (v := .int .i64 (s.xs.length : Int)) (w' := w1) rfl rfl rfl rfl (by simp [go_sem, sEv, sLook, nbeq, i64_w]; rw [(BR.reads' hR12).1, TS.next_xs]) ?_
    refine rw_val (v := .pointer (some ⟨g, 0, none⟩)) (w' := w1) rfl rfl rfl rfl (by simp [go_sem, sEv, sLook, nbeq, i64_w]) ?_
    refine rw_val (v := .pointer (some ⟨g, 1, none⟩)) (w' := w1) rfl rfl rfl rfl (by simp [go_sem, sEv, sLook, nbeq, i64_w, Try.underlying76]) ?_
    have hb16 := hb11
    refine rw_store (g := g) (i := 1) (l := [.int .i64 (s.xs.length : Int)]) (cs' := #[.slice A8 n9 c10, .int .i64 (s.xs.length : Int), .int .i64 s.next.steps, .bool s.next.ps, .int .i64 s.next.pl, .bool s.next.fs, .int .i64 s.next.fl, .bool s.next.dn]) rfl rfl rfl hb16 rfl (by have e0_ := hb16.cellv (i := 1) (v := (.int .i64 s.next.sure : Value)) rfl; have f0_ := hb16.frozen 1; simp [go_sem, sEv, sLook, nbeq, i64_w, putCells, e0_, f0_]) ?_
    intro w13 hk14 hk15
    have hs_w13 := hk14.size
    refine rw_end ?_
    refine w_weaken (G' := [(2, .nilIface)]) ⟨rfl, trivial⟩ ?_
    refine w_seq ?_
    refine w_region ?_
    refine rw_val (v := .nilIface) (w' := w13) rfl rfl rfl rfl rfl ?_
    refine rw_end ?_
    refine w_ret (post_ret1 rfl rfl ?_)
    have e1_ : s.err = none := by simpa using cE
    rw [e1_, TS.sync, if_neg (by simp [e1_])]
    have e2_ : { s.next with sure := (s.xs.length : Int) } = ⟨s.next.xs, (s.xs.length : Int), s.next.steps, s.next.ps, s.next.pl, s.next.fs, s.next.fl, s.next.dn⟩ := rfl
    rw [e2_]
    refine ⟨rfl, TapeAt.mk (s := ⟨s.next.xs, (s.xs.length : Int), s.next.steps, s.next.ps, s.next.pl, s.next.fs, s.next.fl, s.next.dn⟩) (hk14.below (by omega) hB5) hg0 hk15 (BR.step hR12 (fun q hq _ => hk14.block q (by have := hq.1; omega))) (fun q hq => ⟨hq.1, hq.2.2⟩), by omega, (fun q hxq hxg => ((hk14.block q hxg).trans (hkp4.block q hxg)))⟩
theorem sync_T (w0 w : World) (g m : Nat) (x : Nat → Prop) (hx : ∀ q, x q → q < w.heap.size) (s : TS) (hT : TapeAt w0 w g m x s) (hok : s.Ok)  : Calls Try.prog 40 #[.pointer (some ⟨g, 0, none⟩)] w fun e w' => e = .returned (errT s.err) ∧ TapeAt w0 w' g w'.heap.size x s.sync ∧ w.heap.size ≤ w'.heap.size ∧ (∀ q, x q → q ≠ g → w'.heap[q]? = w.heap[q]?) := by
  obtain ⟨hB, hg0, hm, A, n, c, hb, hR⟩ := hT
  exact sync_raw w0 w g m x hx s A n c hB hg0 hm hb hR hok
set_option maxHeartbeats 4000000 in
theorem read_raw (w0 w : World) (g m : Nat) (x : Nat → Prop) (hx : ∀ q, x q → q < w.heap.size) (s : TS) (A : Option Addr) (n c : Nat) (hB : Below w0.heap.size w0 w) (hg0 : w0.heap.size ≤ g) (hm : g < m ∧ m ≤ w.heap.size) (hb : Blk w g 76 (tcells A n c s)) (hR : BR .u8 5 w w0.heap.size (fun q => g < q ∧ q < m ∧ ¬ x q) A n c s.xs) (hok : s.Ok) :
    Calls Try.prog 17 #[.pointer (some ⟨g, 0, none⟩)] w fun e w' => ∃ A' n' c', e = .returned (.slice A' n' c') ∧ Own .u8 5 w' w.heap.size w.heap.size A' n' c' s.xs ∧ Below w.heap.size w w' := by
  refine calls_flow Try.func17 rfl 10 rfl (Nat.le_of_ble_eq_true rfl) [(0, .pointer (some ⟨g, 0, none⟩))] ?_ ?_
  · intro t v h; exact args_look rfl t v h
  refine w_seq ?_
  refine w_region ?_
  refine rw_val (v := .slice none 0 0) (w' := w) rfl rfl rfl rfl rfl ?_
  refine rw_end ?_
  refine w_seq ?_
  refine w_seq ?_
  refine w_region ?_
  refine rw_val (v := .pointer (some ⟨g, 0, none⟩)) (w' := w) rfl rfl rfl rfl rfl ?_
  refine rw_val (v := .bool false) (w' := w) rfl rfl rfl rfl (run_as (run_ptr_eql (e := 76) (by kernel_rfl) _ _)) ?_
  refine rw_end ?_
  refine w_cond_f rfl rfl rfl ?_
  refine w_skip ?_
  refine w_seq ?_
  refine w_region ?_
  refine rw_val (v := .pointer (some ⟨g, 0, none⟩)) (w' := w) rfl rfl rfl rfl rfl ?_
  refine rw_val (v := .pointer (some ⟨g, 0, none⟩)) (w' := w) rfl rfl rfl rfl (by simp [go_sem, sEv, sLook, nbeq, i64_w]) ?_
  refine rw_val (v := .pointer (some ⟨g, 0, none⟩)) (w' := w) rfl rfl rfl rfl (by simp [go_sem, sEv, sLook, nbeq, i64_w, Try.underlying76]) ?_
  refine rw_val (v := .slice A n c) (w' := w) rfl rfl rfl rfl (by have e0_ := hb.cellv (i := 0) (v := .slice A n c) rfl; simp [go_sem, sEv, sLook, nbeq, i64_w, e0_]) ?_
  refine rw_call rfl rfl rfl rfl (f := 42) (args := #[.slice A n c]) (by simp [go_sem, sEv, sLook, nbeq, i64_w]) (clone_calls w A n c s.xs (show (Kd.int .u8).C w A n s.xs by rw [(BR.reads' hR).1]; exact (BR.reads' hR).2.2) (by have := hok.len; have := (BR.reads' hR).1; omega)) ?_
  rintro e_ w4 ⟨A1, n2, c3, rfl, hO5, hB6⟩
  refine ⟨_, rfl, ?_⟩
  have hs_w4 := hB6.size
  refine rw_val (v := .slice A1 n2 c3) (w' := w4) rfl rfl rfl rfl rfl ?_
  refine rw_end ?_
  refine w_weaken (G' := [(2, .slice A1 n2 c3)]) ⟨rfl, trivial⟩ ?_
  refine w_ret (post_ret1 rfl rfl ?_)
  exact ⟨_, _, _, rfl, hO5, hB6⟩
theorem read_T (w0 w : World) (g m : Nat) (x : Nat → Prop) (hx : ∀ q, x q → q < w.heap.size) (s : TS) (hT : TapeAt w0 w g m x s) (hok : s.Ok) : Calls Try.prog 17 #[.pointer (some ⟨g, 0, none⟩)] w fun e w' => ∃ A' n' c', e = .returned (.slice A' n' c') ∧ Own .u8 5 w' w.heap.size w.heap.size A' n' c' s.xs ∧ Below w.heap.size w w' := by
  obtain ⟨hB, hg0, hm, A, n, c, hb, hR⟩ := hT
  exact read_raw w0 w g m x hx s A n c hB hg0 hm hb hR hok
set_option maxHeartbeats 4000000 in
theorem new_T  (w : World) :
    Calls Try.prog 10 #[] w fun e w' => ∃ g, e = .returned (.pointer (some ⟨g, 0, none⟩)) ∧ TapeAt w w' g w'.heap.size (fun _ => False) TS.start ∧ w.heap.size ≤ w'.heap.size := by
  refine calls_flow Try.func10 rfl 3 rfl (Nat.le_of_ble_eq_true rfl) [] ?_ ?_
  · intro t v h; exact args_look rfl t v h
  refine w_seq ?_
  refine w_region ?_
  refine rw_val (v := .pointer none) (w' := w) rfl rfl rfl rfl rfl ?_
  refine rw_end ?_
  refine w_seq ?_
  refine w_region ?_
  refine rw_val (v := .agg #[.slice none 0 0, .int .i64 0, .int .i64 0, .bool false, .int .i64 0, .bool false, .int .i64 0, .bool false]) (w' := w) rfl rfl rfl rfl (by kernel_rfl) ?_
  refine rw_new (cs := #[.slice none 0 0, .int .i64 0, .int .i64 0, .bool false, .int .i64 0, .bool false, .int .i64 0, .bool false]) (t := 76) (fun g => .pointer (some ⟨g, 0, none⟩)) rfl rfl rfl rfl (by simp [go_sem, sEv, sLook, nbeq, i64_w]) ?_
  intro g1 w2 hg6 hz5 hb3 hk4
  have hs_w2 := hb3.size
  refine rw_val (v := .pointer (some ⟨g1, 0, none⟩)) (w' := w2) rfl rfl rfl rfl rfl ?_
  refine rw_end ?_
  refine w_ret (post_ret1 rfl rfl ?_)
  exact ⟨g1, rfl, TapeAt.mk (s := TS.start) (ok := fun q => False) hb3 (by omega) hk4 (BR.nil _ _ _ _ _) (fun q hq => hq.elim), by omega⟩
end Go.Proofs.Ytiiljpaedelhlaa.Tp
namespace Go.Proofs.Ytiiljpaedelhlaa.Tp
open Go.RowKit Go.Proofs.YtiiljpaedelhlaaW.PrintWords Go.Proofs.YtiiljpaedelhlaaW.PrintLast Go.Proofs.YtiiljpaedelhlaaW.PrintMore
open Go.Proofs.YtiiljpaedelhlaaW.PrintWords.Kd Go.Proofs.Ytiiljpaedelhlaa.Flow
set_option linter.unusedVariables false
set_option linter.unusedSimpArgs false

set_option maxHeartbeats 4000000 in
theorem replace_raw (w0 w : World) (g m : Nat) (x : Nat → Prop) (hx : ∀ q, x q → q < w.heap.size) (s : TS) (A : Option Addr) (n c : Nat) (hB : Below w0.heap.size w0 w) (hg0 : w0.heap.size ≤ g) (hm : g < m ∧ m ≤ w.heap.size) (hb : Blk w g 76 (tcells A n c s)) (hR : BR .u8 5 w w0.heap.size (fun q => g < q ∧ q < m ∧ ¬ x q) A n c s.xs) (hok : s.Ok) (P : Option Addr) (ys : List Int) (pc : Nat) (hP : ∀ W_, Kept w W_ (fun k => k = g) → (Kd.int .u8).C W_ P ys.length ys) :
    Calls Try.prog 37 #[.pointer (some ⟨g, 0, none⟩), .slice P ys.length pc] w fun e w' => e = .returned (errT (s.repE ys)) ∧ TapeAt w0 w' g w'.heap.size x (s.rep ys) ∧ w.heap.size ≤ w'.heap.size ∧ (∀ q, x q → q ≠ g → w'.heap[q]? = w.heap[q]?) ∧ Kept w w' (fun k => k = g) := by
  refine calls_flow Try.func37 rfl 25 rfl (Nat.le_of_ble_eq_true rfl) [(0, .pointer (some ⟨g, 0, none⟩)), (1, .slice P ys.length pc)] ?_ ?_
  · intro t v h; exact args_look rfl t v h
  refine w_seq ?_
  refine w_region ?_
  refine rw_val (v := .nilIface) (w' := w) rfl rfl rfl rfl rfl ?_
  refine rw_end ?_
  refine w_seq ?_
  refine w_seq ?_
  refine w_region ?_
  refine rw_val (v := .slice P ys.length pc) (w' := w) rfl rfl rfl rfl rfl ?_
  refine rw_val (v := .int .i64 (ys.length : Int)) (w' := w) rfl rfl rfl rfl (by simp [go_sem, sEv, sLook, nbeq, i64_w]) ?_
  refine rw_val (v := .bool (decide (1048576 < (ys.length : Int)))) (w' := w) rfl rfl rfl rfl (by simp [go_sem, sEv, sLook, nbeq, i64_w]) ?_
  refine rw_end ?_
  refine w_cond rfl rfl (fun cB => ?_) (fun cB => ?_)
  · refine w_seq ?_
    refine w_region ?_
    refine rw_val (v := errT (some 7)) (w' := w) rfl rfl rfl rfl (by simp [go_sem, sEv, sLook, nbeq, i64_w, errT]) ?_
    refine rw_val (v := errT (some 7)) (w' := w) rfl rfl rfl rfl rfl ?_
    refine rw_end ?_
    refine w_ret (post_ret1 rfl rfl ?_)
    have f_ := of_decide_eq_true cB
    rw [TS.repE, TS.rep, if_pos (by omega), if_pos (by omega)]
    have e2_ : s = ⟨s.xs, s.sure, s.steps, s.ps, s.pl, s.fs, s.fl, s.dn⟩ := rfl
    rw [e2_]
    refine ⟨rfl, TapeAt.mk (s := ⟨s.xs, s.sure, s.steps, s.ps, s.pl, s.fs, s.fl, s.dn⟩) hB hg0 hb hR (fun q hq => ⟨hq.1, hq.2.2⟩), by omega, (fun q hxq hxg => rfl), (Kept.refl _ _)⟩
  · refine w_skip ?_
    refine w_seq ?_
    refine w_seq ?_
    refine w_region ?_
    refine rw_val (v := .pointer (some ⟨g, 0, none⟩)) (w' := w) rfl rfl rfl rfl rfl ?_
    refine rw_call rfl rfl rfl rfl (f := 50) (args := #[.pointer (some ⟨g, 0, none⟩)]) (by simp [go_sem, sEv, sLook, nbeq, i64_w]) (step_raw w0 w g m x (fun q h_ => by have := hx q h_; omega) s A n c hB hg0 ⟨by omega, by omega⟩ hb hR hok) ?_
    rintro e_ w1 ⟨rfl, hT2, hs3, _, hkp4⟩
    refine ⟨_, rfl, ?_⟩
    obtain ⟨hB5, hg6, hm7, A8, n9, c10, hb11, hR12⟩ := hT2
    refine rw_val (v := errT s.err) (w' := w1) rfl rfl rfl rfl rfl ?_
    refine rw_end ?_
    refine w_seq ?_
    refine w_region ?_
    refine rw_val (v := errT s.err) (w' := w1) rfl rfl rfl rfl rfl ?_
    refine rw_val (v := .bool s.err.isSome) (w' := w1) rfl rfl rfl rfl (run_as (guard_err_neq _ _ _)) ?_
    refine rw_end ?_
    refine w_cond rfl rfl (fun cE => ?_) (fun cE => ?_)
    · refine w_seq ?_
      refine w_region ?_
      refine rw_val (v := errT s.err) (w' := w1) rfl rfl rfl rfl rfl ?_
      refine rw_val (v := errT s.err) (w' := w1) rfl rfl rfl rfl rfl ?_
      refine rw_end ?_
      refine w_ret (post_ret1 rfl rfl ?_)
      have f2_ := of_decide_eq_false cB
      rw [TS.repE, TS.rep, if_neg (by omega), if_neg (by omega)]
      rw [if_pos cE]
      have e2_ : s.next = ⟨s.next.xs, s.next.sure, s.next.steps, s.next.ps, s.next.pl, s.next.fs, s.next.fl, s.next.dn⟩ := rfl
      rw [e2_]
      refine ⟨rfl, TapeAt.mk (s := ⟨s.next.xs, s.next.sure, s.next.steps, s.next.ps, s.next.pl, s.next.fs, s.next.fl, s.next.dn⟩) hB5 hg0 hb11 hR12 (fun q hq => ⟨hq.1, hq.2.2⟩), by omega, (fun q hxq hxg => (hkp4.block q hxg)), (Keep.kept hkp4)⟩
    · refine w_skip ?_
      refine w_seq ?_
      refine w_region ?_
      refine rw_val (v := .pointer (some ⟨g, 0, none⟩)) (w' := w1) rfl rfl rfl rfl rfl ?_
      refine rw_val (v := .pointer (some ⟨g, 0, none⟩)) (w' := w1) rfl rfl rfl rfl rfl ?_
      refine rw_val (v := .slice P ys.length pc) (w' := w1) rfl rfl rfl rfl rfl ?_
      have hl19 := (hb11).lt
      have f_ := of_decide_eq_false cB
      refine rw_call rfl rfl rfl rfl (f := 42) (args := #[.slice P ys.length pc]) (by simp [go_sem, sEv, sLook, nbeq, i64_w]) (clone_calls w1 P ys.length pc ys (hP w1 (Keep.kept hkp4)) (by omega)) ?_
      rintro e_ w16 ⟨A13, n14, c15, rfl, hO17, hB18⟩
      refine ⟨_, rfl, ?_⟩
      have hs_w16 := hB18.size
      refine rw_val (v := .slice P ys.length pc) (w' := w16) rfl rfl rfl rfl rfl ?_
      refine rw_val (v := .int .i64 (ys.length : Int)) (w' := w16) rfl rfl rfl rfl (by simp [go_sem, sEv, sLook, nbeq, i64_w]) ?_
      refine rw_val (v := .pointer (some ⟨g, 0, none⟩)) (w' := w16) rfl rfl rfl rfl (by simp [go_sem, sEv, sLook, nbeq, i64_w]) ?_
      refine rw_val (v := .pointer (some ⟨g, 0, none⟩)) (w' := w16) rfl rfl rfl rfl (by simp [go_sem, sEv, sLook, nbeq, i64_w, Try.underlying76]) ?_
      have hb23 := (hb11.on hB18)
      refine rw_store (g := g) (i := 0) (l := [.slice A13 n14 c15]) (cs' := #[.slice A13 n14 c15, .int .i64 s.next.sure, .int .i64 s.next.steps, .bool s.next.ps, .int .i64 s.next.pl, .bool s.next.fs, .int .i64 s.next.fl, .bool s.next.dn]) rfl rfl rfl hb23 rfl (by have e0_ := hb23.cellv (i := 0) (v := (.slice A8 n9 c10 : Value)) rfl; have f0_ := hb23.frozen 0; simp [go_sem, sEv, sLook, nbeq, i64_w, putCells, e0_, f0_, Try.underlying32]) ?_
      intro w20 hk21 hk22
      have hs_w20 := hk21.size
      refine rw_val (v := .pointer (some ⟨g, 0, none⟩)) (w' := w20) rfl rfl rfl rfl (by simp [go_sem, sEv, sLook, nbeq, i64_w]) ?_
      refine rw_val (v := .pointer (some ⟨g, 1, none⟩)) (w' := w20) rfl rfl rfl rfl (by simp [go_sem, sEv, sLook, nbeq, i64_w, Try.underlying76]) ?_
      have hb27 := hk22
      refine rw_store (g := g) (i := 1) (l := [.int .i64 (ys.length : Int)]) (cs' := #[.slice A13 n14 c15, .int .i64 (ys.length : Int), .int .i64 s.next.steps, .bool s.next.ps, .int .i64 s.next.pl, .bool s.next.fs, .int .i64 s.next.fl, .bool s.next.dn]) rfl rfl rfl hb27 rfl (by have e0_ := hb27.cellv (i := 1) (v := (.int .i64 s.next.sure : Value)) rfl; have f0_ := hb27.frozen 1; simp [go_sem, sEv, sLook, nbeq, i64_w, putCells, e0_, f0_]) ?_
      intro w24 hk25 hk26
      have hs_w24 := hk25.size
      refine rw_end ?_
      refine w_weaken (G' := [(4, .nilIface)]) ⟨rfl, trivial⟩ ?_
      refine w_seq ?_
      refine w_region ?_
      refine rw_val (v := .nilIface) (w' := w24) rfl rfl rfl rfl rfl ?_
      refine rw_end ?_
      refine w_ret (post_ret1 rfl rfl ?_)
      have f2_ := of_decide_eq_false cB
      rw [TS.repE, TS.rep, if_neg (by omega), if_neg (by omega)]
      have e1_ : s.err = none := by simpa using cE
      rw [if_neg (by simp [e1_]), e1_]
      have e2_ : { s.next with xs := ys, sure := (ys.length : Int) } = ⟨ys, (ys.length : Int), s.next.steps, s.next.ps, s.next.pl, s.next.fs, s.next.fl, s.next.dn⟩ := rfl
      rw [e2_]
      refine ⟨rfl, TapeAt.mk (s := ⟨ys, (ys.length : Int), s.next.steps, s.next.ps, s.next.pl, s.next.fs, s.next.fl, s.next.dn⟩) (hk25.below (by omega) (hk21.below (by omega) (chain hB5 hB18))) hg0 hk26 (BR.step (BR.step (BR.lower (.inl hO17) (by omega)) (fun q hq _ => hk21.block q (by first | omega | (have := hq.1; omega)))) (fun q hq _ => hk25.block q (by first | omega | (have := hq.1; omega)))) (fun q hq => ⟨by omega, fun h_ => by have := hx q h_; omega⟩), by omega, (fun q hxq hxg => ((hk25.block q hxg).trans ((hk21.block q hxg).trans ((hB18.block q (by have := hx q hxq; omega)).trans (hkp4.block q hxg))))), (Kept.then_ (Kept.then_ (Kept.below (Keep.kept hkp4) hB18) (Keep.kept hk21) (fun _ h => .inl h)) (Keep.kept hk25) (fun _ h => .inl h))⟩
theorem replace_T (w0 w : World) (g m : Nat) (x : Nat → Prop) (hx : ∀ q, x q → q < w.heap.size) (s : TS) (hT : TapeAt w0 w g m x s) (hok : s.Ok) (P : Option Addr) (ys : List Int) (pc : Nat) (hP : ∀ W_, Kept w W_ (fun k => k = g) → (Kd.int .u8).C W_ P ys.length ys) : Calls Try.prog 37 #[.pointer (some ⟨g, 0, none⟩), .slice P ys.length pc] w fun e w' => e = .returned (errT (s.repE ys)) ∧ TapeAt w0 w' g w'.heap.size x (s.rep ys) ∧ w.heap.size ≤ w'.heap.size ∧ (∀ q, x q → q ≠ g → w'.heap[q]? = w.heap[q]?) ∧ Kept w w' (fun k => k = g) := by
  obtain ⟨hB, hg0, hm, A, n, c, hb, hR⟩ := hT
  exact replace_raw w0 w g m x hx s A n c hB hg0 hm hb hR hok P ys pc hP
set_option maxHeartbeats 4000000 in
theorem append_raw (w0 w : World) (g m : Nat) (x : Nat → Prop) (hx : ∀ q, x q → q < w.heap.size) (s : TS) (A : Option Addr) (n c : Nat) (hB : Below w0.heap.size w0 w) (hg0 : w0.heap.size ≤ g) (hm : g < m ∧ m ≤ w.heap.size) (hb : Blk w g 76 (tcells A n c s)) (hR : BR .u8 5 w w0.heap.size (fun q => g < q ∧ q < m ∧ ¬ x q) A n c s.xs) (hok : s.Ok) (P0 : Option Addr) (ps : List (List Int)) (pc : Nat) (hP : ∀ W_, Kept w W_ (fun k => k = g ∨ (g < k ∧ k < m ∧ ¬ x k)) → (Kd.slice 5 (Kd.int .u8)).C W_ P0 ps.length ps) (hn : ps.length ≤ 1000000) (hall : ∀ p ∈ ps, p.length ≤ 140737488355328) :
    Calls Try.prog 39 #[.pointer (some ⟨g, 0, none⟩), .slice P0 ps.length pc] w fun e w' => e = .returned (errT (s.appE ps.flatten)) ∧ TapeAt w0 w' g w'.heap.size x (s.app ps.flatten) ∧ w.heap.size ≤ w'.heap.size ∧ (∀ q, x q → q ≠ g → w'.heap[q]? = w.heap[q]?) := by
  refine calls_flow Try.func39 rfl 48 rfl (Nat.le_of_ble_eq_true rfl) [(0, .pointer (some ⟨g, 0, none⟩)), (1, .slice P0 ps.length pc)] ?_ ?_
  · intro t v h; exact args_look rfl t v h
  refine w_seq ?_
  refine w_region ?_
  refine rw_val (v := .nilIface) (w' := w) rfl rfl rfl rfl rfl ?_
  refine rw_end ?_
  refine w_seq ?_
  refine w_region ?_
  refine rw_val (v := .pointer (some ⟨g, 0, none⟩)) (w' := w) rfl rfl rfl rfl rfl ?_
  refine rw_call rfl rfl rfl rfl (f := 53) (args := #[.pointer (some ⟨g, 0, none⟩)]) (by simp [go_sem, sEv, sLook, nbeq, i64_w, -List.length_flatten]) (length_raw w0 w g m x (fun q h_ => by have := hx q h_; omega) s A n c hB hg0 hm hb hR hok) ?_
  rintro e_ w1 ⟨rfl, rfl⟩
  refine ⟨_, rfl, ?_⟩
  refine rw_val (v := .int .i64 (s.xs.length : Int)) (w' := w) rfl rfl rfl rfl rfl ?_
  refine rw_end ?_
  refine w_seq ?_
  refine w_seq ?_
  refine w_region ?_
  refine rw_val (v := .slice P0 ps.length pc) (w' := w) rfl rfl rfl rfl rfl ?_
  refine rw_val (v := .int .i64 (ps.length : Int)) (w' := w) rfl rfl rfl rfl (by simp [go_sem, sEv, sLook, nbeq, i64_w, -List.length_flatten]) ?_
  refine rw_val (v := .int .i64 0) (w' := w) rfl rfl rfl rfl rfl ?_
  refine rw_end ?_
  refine w_block ?_
  have hlen_ := hok.len
  refine w_loop (fun m_ G W_ => ∃ i : Nat, i + m_ = ps.length ∧ s.xs.length + (ps.take i).flatten.length ≤ 1048576 ∧ w = W_ ∧ G = [(0, .pointer (some ⟨g, 0, none⟩)), (1, .slice P0 ps.length pc), (4, .nilIface), (5, .int .i64 ((s.xs.length + (ps.take i).flatten.length : Nat) : Int)), (13, .slice P0 ps.length pc), (14, .int .i64 (ps.length : Int)), (15, .int .i64 (i : Int))]) ps.length [(0, .pointer (some ⟨g, 0, none⟩)), (1, .slice P0 ps.length pc), (4, .nilIface), (5, .int .i64 (s.xs.length : Int)), (13, .slice P0 ps.length pc), (14, .int .i64 (ps.length : Int)), (15, .int .i64 0)] ⟨0, by omega, by simpa using hlen_, rfl, by simp⟩ ⟨rfl, rfl, rfl, rfl, rfl, rfl, rfl, trivial⟩ ?_
  rintro m_ G w_ ⟨i, him, hfl, rfl, rfl⟩
  refine w_seq ?_
  refine w_region ?_
  refine rw_val (v := .bool (decide ((i : Int) < (ps.length : Int)))) (w' := w) rfl rfl rfl rfl (by simp [go_sem, sEv, sLook, nbeq, i64_w, -List.length_flatten]) ?_
  refine rw_end ?_
  refine w_seq ?_
  refine w_cond rfl rfl (fun cL => ?_) (fun cL => ?_)
  · refine w_skip ?_
    refine w_seq ?_
    refine w_block ?_
    refine w_seq ?_
    refine w_region ?_
    have l_ := of_decide_eq_true cL
    obtain ⟨ad, A1, c1, hA_, hcell_, hle_, hC_⟩ := at_L2 (hP w (Kept.refl _ _)) (i : Int) (by omega) (by omega)
    subst hA_
    rw [show ((i : Int)).toNat = i by omega] at hcell_
    have hpl_ := hall _ (rd_L2_mem ps i (by omega))
    have htl_ := take_len ps i (by omega)
    have hfl3_ := take_le ps (i + 1)
    refine rw_val (v := .pointer (some (ad.add i))) (w' := w) rfl rfl rfl rfl (by simp [go_sem, sEv, sLook, nbeq, i64_w, -List.length_flatten, Try.underlying22]; omega) ?_
    refine rw_val (v := .slice A1 ((rd_L2 ps (i : Int)).length) c1) (w' := w) rfl rfl rfl rfl (by simp [go_sem, sEv, sLook, nbeq, i64_w, -List.length_flatten, hcell_]) ?_
    refine rw_val (v := .slice A1 ((rd_L2 ps (i : Int)).length) c1) (w' := w) rfl rfl rfl rfl rfl ?_
    refine rw_end ?_
    refine w_seq ?_
    refine w_region ?_
    refine rw_val (v := .int .i64 ((s.xs.length + (ps.take i).flatten.length : Nat) : Int)) (w' := w) rfl rfl rfl rfl rfl ?_
    refine rw_val (v := .slice A1 ((rd_L2 ps (i : Int)).length) c1) (w' := w) rfl rfl rfl rfl rfl ?_
    refine rw_val (v := .int .i64 ((rd_L2 ps (i : Int)).length : Int)) (w' := w) rfl rfl rfl rfl (by simp [go_sem, sEv, sLook, nbeq, i64_w, -List.length_flatten]) ?_
    refine rw_val (v := .int .i64 ((s.xs.length + (ps.take (i + 1)).flatten.length : Nat) : Int)) (w' := w) rfl rfl rfl rfl (by simp [go_sem, sEv, sLook, nbeq, i64_w, -List.length_flatten]; rw [htl_]; rw [show (s.xs.length : Int) + ((ps.take i).flatten.length : Int) + ((rd_L2 ps (i : Int)).length : Int) = ((s.xs.length + ((ps.take i).flatten.length + (rd_L2 ps (i : Int)).length) : Nat) : Int) by omega]; exact wrap_id (by omega) (by omega)) ?_
    refine rw_val (v := .int .i64 ((s.xs.length + (ps.take (i + 1)).flatten.length : Nat) : Int)) (w' := w) rfl rfl rfl rfl rfl ?_
    refine rw_end ?_
    refine w_weaken (G' := [(0, .pointer (some ⟨g, 0, none⟩)), (1, .slice (some ad) ps.length pc), (4, .nilIface), (5, .int .i64 ((s.xs.length + (ps.take (i + 1)).flatten.length : Nat) : Int)), (13, .slice (some ad) ps.length pc), (14, .int .i64 (ps.length : Int)), (15, .int .i64 (i : Int))]) ⟨rfl, rfl, rfl, rfl, rfl, rfl, rfl, trivial⟩ ?_
    refine w_seq ?_
    refine w_region ?_
    refine rw_val (v := .int .i64 ((s.xs.length + (ps.take (i + 1)).flatten.length : Nat) : Int)) (w' := w) rfl rfl rfl rfl rfl ?_
    refine rw_val (v := .bool (decide (1048576 < ((s.xs.length + (ps.take (i + 1)).flatten.length : Nat) : Int)))) (w' := w) rfl rfl rfl rfl (by simp [go_sem, sEv, sLook, nbeq, i64_w, -List.length_flatten]) ?_
    refine rw_end ?_
    refine w_cond rfl rfl (fun cF => ?_) (fun cF => ?_)
    · refine w_seq ?_
      refine w_region ?_
      refine rw_val (v := errT (some 7)) (w' := w) rfl rfl rfl rfl (by simp [go_sem, sEv, sLook, nbeq, i64_w, -List.length_flatten, errT]) ?_
      refine rw_val (v := errT (some 7)) (w' := w) rfl rfl rfl rfl rfl ?_
      refine rw_end ?_
      refine w_ret (post_ret1 rfl rfl ?_)
      have f_ := of_decide_eq_true cF
      have t_ := take_le ps (i + 1)
      rw [TS.appE, TS.app, if_pos (by omega), if_pos (by omega)]
      have e2_ : s = ⟨s.xs, s.sure, s.steps, s.ps, s.pl, s.fs, s.fl, s.dn⟩ := rfl
      rw [e2_]
      refine ⟨rfl, TapeAt.mk (s := ⟨s.xs, s.sure, s.steps, s.ps, s.pl, s.fs, s.fl, s.dn⟩) hB hg0 hb hR (fun q hq => ⟨hq.1, hq.2.2⟩), by omega, (fun q hxq hxg => rfl)⟩
    · refine w_skip ?_
      refine w_blk ?_
      refine w_region ?_
      refine rw_val (v := .int .i64 ((i + 1 : Nat) : Int)) (w' := w) rfl rfl rfl rfl (by simp [go_sem, sEv, sLook, nbeq, i64_w, -List.length_flatten]; have l_ := of_decide_eq_true cL; exact wrap_id (by omega) (by omega)) ?_
      refine rw_val (v := .int .i64 ((i + 1 : Nat) : Int)) (w' := w) rfl rfl rfl rfl rfl ?_
      refine rw_end ?_
      have l_ := of_decide_eq_true cL
      have f_ := of_decide_eq_false cF
      exact w_back (m_ - 1) [(0, .pointer (some ⟨g, 0, none⟩)), (1, .slice (some ad) ps.length pc), (4, .nilIface), (5, .int .i64 ((s.xs.length + (ps.take (i + 1)).flatten.length : Nat) : Int)), (13, .slice (some ad) ps.length pc), (14, .int .i64 (ps.length : Int)), (15, .int .i64 ((i + 1 : Nat) : Int))] (by omega) ⟨rfl, rfl, rfl, rfl, rfl, rfl, rfl, trivial⟩ ⟨i + 1, by omega, by omega, rfl, rfl⟩
  · refine w_exit rfl ?_
    refine w_seq ?_
    refine w_seq ?_
    refine w_region ?_
    refine rw_val (v := .pointer (some ⟨g, 0, none⟩)) (w' := w) rfl rfl rfl rfl rfl ?_
    have l0_ := of_decide_eq_false cL
    obtain rfl : i = ps.length := by omega
    rw [List.take_length] at hfl
    refine rw_call rfl rfl rfl rfl (f := 50) (args := #[.pointer (some ⟨g, 0, none⟩)]) (by simp [go_sem, sEv, sLook, nbeq, i64_w, -List.length_flatten]) (step_raw w0 w g m x (fun q h_ => by have := hx q h_; omega) s A n c hB hg0 ⟨by omega, by omega⟩ hb hR hok) ?_
    rintro e_ w2 ⟨rfl, hT3, hs4, _, hkp5⟩
    refine ⟨_, rfl, ?_⟩
    obtain ⟨hB6, hg7, hm8, A9, n10, c11, hb12, hR13⟩ := hT3
    refine rw_val (v := errT s.err) (w' := w2) rfl rfl rfl rfl rfl ?_
    refine rw_end ?_
    refine w_seq ?_
    refine w_region ?_
    refine rw_val (v := errT s.err) (w' := w2) rfl rfl rfl rfl rfl ?_
    refine rw_val (v := .bool s.err.isSome) (w' := w2) rfl rfl rfl rfl (run_as (guard_err_neq _ _ _)) ?_
    refine rw_end ?_
    refine w_cond rfl rfl (fun cE => ?_) (fun cE => ?_)
    · refine w_seq ?_
      refine w_region ?_
      refine rw_val (v := errT s.err) (w' := w2) rfl rfl rfl rfl rfl ?_
      refine rw_val (v := errT s.err) (w' := w2) rfl rfl rfl rfl rfl ?_
      refine rw_end ?_
      refine w_ret (post_ret1 rfl rfl ?_)
      rw [TS.appE, TS.app, if_neg (by omega), if_neg (by omega), if_pos cE]
      have e2_ : s.next = ⟨s.next.xs, s.next.sure, s.next.steps, s.next.ps, s.next.pl, s.next.fs, s.next.fl, s.next.dn⟩ := rfl
      rw [e2_]
      refine ⟨rfl, TapeAt.mk (s := ⟨s.next.xs, s.next.sure, s.next.steps, s.next.ps, s.next.pl, s.next.fs, s.next.fl, s.next.dn⟩) hB6 hg0 hb12 hR13 (fun q hq => ⟨hq.1, hq.2.2⟩), by omega, (fun q hxq hxg => (hkp5.block q hxg))⟩
    · refine w_skip ?_
      refine w_seq ?_
      refine w_seq ?_
      refine w_region ?_
      refine rw_val (v := .slice P0 ps.length pc) (w' := w2) rfl rfl rfl rfl rfl ?_
      refine rw_val (v := .int .i64 (ps.length : Int)) (w' := w2) rfl rfl rfl rfl (by simp [go_sem, sEv, sLook, nbeq, i64_w, -List.length_flatten]) ?_
      refine rw_val (v := .int .i64 0) (w' := w2) rfl rfl rfl rfl rfl ?_
      refine rw_end ?_
      refine w_block ?_
      have e1_ : s.err = none := by simpa using cE
      have hK0_ : Kept w w2 (fun k => k = g ∨ (g < k ∧ k < m ∧ ¬ x k)) := (Keep.kept hkp5).mono (fun k hk => Or.inl hk)
      have hR0_ : BR .u8 5 w2 w0.heap.size (fun q => g < q ∧ (q < m ∨ w.heap.size ≤ q) ∧ ¬ x q) A9 n10 c11 (s.xs ++ (ps.take 0).flatten) := by simpa [TS.next_xs] using BR.mono hR13 (fun q hq => ⟨hq.1, Or.inl hq.2.1, hq.2.2⟩)
      refine w_loop (fun m_ G W_ => ∃ (i : Nat) (A7 : Option Addr) (n7 c7 : Nat), i + m_ = ps.length ∧ Below w0.heap.size w0 W_ ∧ Kept w W_ (fun k => k = g ∨ (g < k ∧ k < m ∧ ¬ x k)) ∧ Blk W_ g 76 #[.slice A7 n7 c7, .int .i64 s.next.sure, .int .i64 s.next.steps, .bool s.next.ps, .int .i64 s.next.pl, .bool s.next.fs, .int .i64 s.next.fl, .bool s.next.dn] ∧ BR .u8 5 W_ w0.heap.size (fun q => g < q ∧ (q < m ∨ w.heap.size ≤ q) ∧ ¬ x q) A7 n7 c7 (s.xs ++ (ps.take i).flatten) ∧ G = [(0, .pointer (some ⟨g, 0, none⟩)), (4, .nilIface), (32, .slice P0 ps.length pc), (33, .int .i64 (ps.length : Int)), (34, .int .i64 (i : Int))]) ps.length [(0, .pointer (some ⟨g, 0, none⟩)), (4, .nilIface), (32, .slice P0 ps.length pc), (33, .int .i64 (ps.length : Int)), (34, .int .i64 0)] ⟨0, _, _, _, by omega, hB6, hK0_, hb12, hR0_, rfl⟩ ⟨rfl, rfl, rfl, rfl, rfl, trivial⟩ ?_
      rintro m_ G w_ ⟨i, A7, n7, c7, him2, hB7, hK_, hb7, hR7, rfl⟩
      have hfl2_ := take_le ps i
      have hks_ := hK_.1
      have hs_w_ := hB7.size
      refine w_seq ?_
      refine w_region ?_
      refine rw_val (v := .bool (decide ((i : Int) < (ps.length : Int)))) (w' := w_) rfl rfl rfl rfl (by simp [go_sem, sEv, sLook, nbeq, i64_w, -List.length_flatten]) ?_
      refine rw_end ?_
      refine w_seq ?_
      refine w_cond rfl rfl (fun cM => ?_) (fun cM => ?_)
      · refine w_skip ?_
        refine w_seq ?_
        refine w_block ?_
        refine w_seq ?_
        refine w_region ?_
        have l_ := of_decide_eq_true cM
        obtain ⟨ad, A1, c1, hA_, hcell_, hle_, hC_⟩ := at_L2 (hP w_ hK_) (i : Int) (by omega) (by omega)
        subst hA_
        rw [show ((i : Int)).toNat = i by omega] at hcell_
        have hpl_ := hall _ (rd_L2_mem ps i (by omega))
        have htl_ := take_len ps i (by omega)
        have hfl3_ := take_le ps (i + 1)
        refine rw_val (v := .pointer (some (ad.add i))) (w' := w_) rfl rfl rfl rfl (by simp [go_sem, sEv, sLook, nbeq, i64_w, -List.length_flatten, Try.underlying22]; omega) ?_
        refine rw_val (v := .slice A1 ((rd_L2 ps (i : Int)).length) c1) (w' := w_) rfl rfl rfl rfl (by simp [go_sem, sEv, sLook, nbeq, i64_w, -List.length_flatten, hcell_]) ?_
        refine rw_val (v := .slice A1 ((rd_L2 ps (i : Int)).length) c1) (w' := w_) rfl rfl rfl rfl rfl ?_
        refine rw_end ?_
        refine w_region ?_
        refine rw_val (v := .pointer (some ⟨g, 0, none⟩)) (w' := w_) rfl rfl rfl rfl rfl ?_
        refine rw_val (v := .pointer (some ⟨g, 0, none⟩)) (w' := w_) rfl rfl rfl rfl rfl ?_
        refine rw_val (v := .pointer (some ⟨g, 0, none⟩)) (w' := w_) rfl rfl rfl rfl (by simp [go_sem, sEv, sLook, nbeq, i64_w, -List.length_flatten]) ?_
        refine rw_val (v := .pointer (some ⟨g, 0, none⟩)) (w' := w_) rfl rfl rfl rfl (by simp [go_sem, sEv, sLook, nbeq, i64_w, -List.length_flatten, Try.underlying76]) ?_
        refine rw_val (v := .slice A7 n7 c7) (w' := w_) rfl rfl rfl rfl (by have e0_ := hb7.cellv (i := 0) (v := (.slice A7 n7 c7 : Value)) rfl; simp [go_sem, sEv, sLook, nbeq, i64_w, -List.length_flatten, e0_]) ?_
        refine rw_val (v := .slice A1 ((rd_L2 ps (i : Int)).length) c1) (w' := w_) rfl rfl rfl rfl rfl ?_
        have hlx_ : ((s.xs ++ (ps.take i).flatten)).length ≤ 1048576 := by simp only [List.length_append]; omega
        refine rw_append_BR .u8 w0.heap.size rfl rfl rfl (.tmp 42) (.tmp 43) rfl rfl 32 5 1 rfl (by kernel_rfl) info5 (by decide) rfl rfl (fun q hq => ⟨by have := (hb7).lt; omega, Or.inr (by omega), fun h_ => by have := hx q h_; omega⟩) hR7 hC_ hB7 (by have := (hB7).size; omega) (by omega) ?_
        intro A14 c15 w16 hR17 hB18 hG19
        have hs_w16 := hG19.size
        have hok7_ := BR.own (hR7)
        have hb20 : Blk w16 g 76 _ := (hG19.block g (hb7).lt (fun hq => by have := (hok7_ g hq.symm).1; omega)).trans (hb7)
        have hK21 : Kept w w16 (fun k => k = g ∨ (g < k ∧ k < m ∧ ¬ x k)) := Kept.of_grown hG19 hK_ (fun k hk => (hok7_ k hk).2.1.elim (fun h => Or.inl (Or.inr ⟨(hok7_ k hk).1, h, (hok7_ k hk).2.2⟩)) Or.inr)
        refine rw_val (v := .pointer (some ⟨g, 0, none⟩)) (w' := w16) rfl rfl rfl rfl (by simp [go_sem, sEv, sLook, nbeq, i64_w, -List.length_flatten]) ?_
        refine rw_val (v := .pointer (some ⟨g, 0, none⟩)) (w' := w16) rfl rfl rfl rfl (by simp [go_sem, sEv, sLook, nbeq, i64_w, -List.length_flatten, Try.underlying76]) ?_
        have hb25 := hb20
        refine rw_store (g := g) (i := 0) (l := [.slice A14 (((s.xs ++ (ps.take i).flatten) ++ rd_L2 ps (i : Int)).length) c15]) (cs' := #[.slice A14 (((s.xs ++ (ps.take i).flatten) ++ rd_L2 ps (i : Int)).length) c15, .int .i64 s.next.sure, .int .i64 s.next.steps, .bool s.next.ps, .int .i64 s.next.pl, .bool s.next.fs, .int .i64 s.next.fl, .bool s.next.dn]) rfl rfl rfl hb25 rfl (by have e0_ := hb25.cellv (i := 0) (v := (.slice A7 n7 c7 : Value)) rfl; have f0_ := hb25.frozen 0; simp [go_sem, sEv, sLook, nbeq, i64_w, -List.length_flatten, putCells, e0_, f0_, Try.underlying32]) ?_
        intro w22 hk23 hk24
        have hs_w22 := hk23.size
        refine rw_end ?_
        refine w_weaken (G' := [(0, .pointer (some ⟨g, 0, none⟩)), (4, .nilIface), (32, .slice (some ad) ps.length pc), (33, .int .i64 (ps.length : Int)), (34, .int .i64 (i : Int))]) ⟨rfl, rfl, rfl, rfl, rfl, trivial⟩ ?_
        refine w_blk ?_
        refine w_region ?_
        refine rw_val (v := .int .i64 ((i + 1 : Nat) : Int)) (w' := w22) rfl rfl rfl rfl (by simp [go_sem, sEv, sLook, nbeq, i64_w, -List.length_flatten]; have l_ := of_decide_eq_true cM; exact wrap_id (by omega) (by omega)) ?_
        refine rw_val (v := .int .i64 ((i + 1 : Nat) : Int)) (w' := w22) rfl rfl rfl rfl rfl ?_
        refine rw_end ?_
        have l_ := of_decide_eq_true cM
        have hR8_ : BR .u8 5 w22 w0.heap.size (fun q => g < q ∧ (q < m ∨ w.heap.size ≤ q) ∧ ¬ x q) A14 (((s.xs ++ (ps.take i).flatten) ++ rd_L2 ps (i : Int)).length) c15 (s.xs ++ (ps.take (i + 1)).flatten) := by rw [take_flat ps i (by omega), ← List.append_assoc]; exact (BR.step hR17 (fun q hq _ => hk23.block q (by first | omega | (have := hq.1; omega))))
        have hK8_ : Kept w w22 (fun k => k = g ∨ (g < k ∧ k < m ∧ ¬ x k)) := hK21.then_ (Keep.kept hk23) (fun k hk => Or.inl (Or.inl hk))
        exact w_back (m_ - 1) [(0, .pointer (some ⟨g, 0, none⟩)), (4, .nilIface), (32, .slice (some ad) ps.length pc), (33, .int .i64 (ps.length : Int)), (34, .int .i64 ((i + 1 : Nat) : Int))] (by omega) ⟨rfl, rfl, rfl, rfl, rfl, trivial⟩ ⟨i + 1, _, _, _, by omega, (hk23.below (by omega) hB18), hK8_, hk24, hR8_, rfl⟩
      · refine w_exit rfl ?_
        refine w_seq ?_
        refine w_region ?_
        refine rw_val (v := .nilIface) (w' := w_) rfl rfl rfl rfl rfl ?_
        refine rw_end ?_
        refine w_ret (post_ret1 rfl rfl ?_)
        have l_ := of_decide_eq_false cM
        obtain rfl : i = ps.length := by omega
        rw [TS.appE, TS.app, if_neg (by omega), if_neg (by omega), if_neg (by simp [e1_]), e1_]
        rw [List.take_length] at hR7
        have e2_ : { s.next with xs := s.xs ++ ps.flatten } = ⟨(s.xs ++ ps.flatten), s.next.sure, s.next.steps, s.next.ps, s.next.pl, s.next.fs, s.next.fl, s.next.dn⟩ := rfl
        rw [e2_]
        refine ⟨rfl, TapeAt.mk (s := ⟨(s.xs ++ ps.flatten), s.next.sure, s.next.steps, s.next.ps, s.next.pl, s.next.fs, s.next.fl, s.next.dn⟩) hB7 hg0 hb7 hR7 (fun q hq => ⟨hq.1, hq.2.2⟩), by omega, (fun q hxq hxg => (hK_.2 q (hx q hxq) (fun h => h.elim hxg (fun h => h.2.2 hxq))))⟩
theorem append_T (w0 w : World) (g m : Nat) (x : Nat → Prop) (hx : ∀ q, x q → q < w.heap.size) (s : TS) (hT : TapeAt w0 w g m x s) (hok : s.Ok) (P0 : Option Addr) (ps : List (List Int)) (pc : Nat) (hP : ∀ W_, Kept w W_ (fun k => k = g ∨ (g < k ∧ k < m ∧ ¬ x k)) → (Kd.slice 5 (Kd.int .u8)).C W_ P0 ps.length ps) (hn : ps.length ≤ 1000000) (hall : ∀ p ∈ ps, p.length ≤ 140737488355328) : Calls Try.prog 39 #[.pointer (some ⟨g, 0, none⟩), .slice P0 ps.length pc] w fun e w' => e = .returned (errT (s.appE ps.flatten)) ∧ TapeAt w0 w' g w'.heap.size x (s.app ps.flatten) ∧ w.heap.size ≤ w'.heap.size ∧ (∀ q, x q → q ≠ g → w'.heap[q]? = w.heap[q]?) := by
  obtain ⟨hB, hg0, hm, A, n, c, hb, hR⟩ := hT
  exact append_raw w0 w g m x hx s A n c hB hg0 hm hb hR hok P0 ps pc hP hn hall
end Go.Proofs.Ytiiljpaedelhlaa.Tp
