/- A tape's methods: the walks. -/
import Derived.Test.YtpbpeklbmmbigaaTpBase
namespace Go.Proofs.Ytpbpeklbmmbigaa.Tp
open Go.RowKit Go.Proofs.YtpbpeklbmmbigaaW.PrintWords Go.Proofs.YtpbpeklbmmbigaaW.PrintLast Go.Proofs.YtpbpeklbmmbigaaW.PrintMore
open Go.Proofs.Ytpbpeklbmmbigaa.Flow
set_option linter.unusedVariables false
set_option linter.unusedSimpArgs false

set_option maxHeartbeats 4000000 in
theorem clone_calls (w : World) (A : Option Addr) (n c : Nat) (xs : List Int) (hC : (Kd.int .u8).C w A n xs) (hl : n ≤ 140737488355328) :
    Calls Try.prog 30 #[.slice A n c] w fun e w' => ∃ A' n' c', e = .returned (.slice A' n' c') ∧ Own .u8 5 w' w.heap.size w.heap.size A' n' c' xs ∧ Below w.heap.size w w' := by
  refine calls_flow Try.func30 rfl 8 rfl (Nat.le_of_ble_eq_true rfl) [(0, .slice A n c)] ?_ ?_
  · intro t v h; exact args_look rfl t v h
  refine w_seq ?_
  refine w_region ?_
  refine rw_val (v := .slice none 0 0) (w' := w) rfl rfl rfl rfl rfl ?_
  refine rw_end ?_
  refine w_seq ?_
  refine w_seq ?_
  refine w_region ?_
  refine rw_val (v := .slice A n c) (w' := w) rfl rfl rfl rfl rfl ?_
  refine rw_val (v := .bool A.isNone) (w' := w) rfl rfl rfl rfl (run_as (run_nil_eql (P := Try.prog) (e := 5) (by kernel_rfl) _ _ _ _)) ?_
  refine rw_end ?_
  refine w_cond rfl rfl (fun cN => ?_) (fun cN => ?_)
  · refine w_seq ?_
    refine w_region ?_
    refine rw_val (v := .slice none 0 0) (w' := w) rfl rfl rfl rfl rfl ?_
    refine rw_end ?_
    refine w_ret (post_ret1 rfl rfl ?_)
    have hn_ : xs = [] := by
      have h1_ := hC.1
      have h2_ := hC.2.2
      rcases n with _ | n
      · exact List.eq_nil_of_length_eq_zero h1_
      · obtain ⟨ad, h3_, _⟩ := h2_ (by omega)
        rw [h3_] at cN
        exact absurd cN (by simp)
    subst hn_
    exact ⟨_, _, _, rfl, Own.nil _ _ _ _ _, (Below.refl _ _)⟩
  · refine w_skip ?_
    refine w_seq ?_
    refine w_region ?_
    refine rw_new (cs := #[]) (t := 5) (fun g => .slice (some ⟨g, 0, none⟩) 0 0) rfl rfl rfl rfl (by kernel_rfl) ?_
    intro g1 w2 hg6 hz5 hb3 hk4
    have hs_w2 := hb3.size
    have hO7 : Own .u8 5 w2 w.heap.size g1 (some ⟨g1, 0, none⟩) 0 0 [] := own_blk w.heap.size hk4 (by omega) rfl (by simp) (by omega) (Nums.nil _ _)
    refine rw_val (v := .slice A n c) (w' := w2) rfl rfl rfl rfl rfl ?_
    refine rw_append_row .u8 w.heap.size rfl rfl rfl (.tmp 5) (.tmp 6) rfl rfl 27 5 1 rfl (by kernel_rfl) info5 (by decide) (b := g1) rfl rfl (by omega) (hO7.on (Below.refl _ _)) (Kd.C_below hC hb3) hb3 (by omega) (by simp; omega) ?_
    intro A8 n9 c10 w11 hn12 hO13 hB14 hG15
    have hs_w11 := hB14.size
    have hgs_w11 := hG15.size
    refine rw_val (v := .slice A8 n9 c10) (w' := w11) rfl rfl rfl rfl rfl ?_
    refine rw_end ?_
    refine w_weaken (G' := [(2, .slice A8 n9 c10)]) ⟨rfl, trivial⟩ ?_
    refine w_ret (post_ret1 rfl rfl ?_)
    exact ⟨_, _, _, rfl, by simpa using ((hO13.on (Below.refl _ _)).mono (by omega) : Own .u8 5 w11 w.heap.size w.heap.size _ _ _ _), hB14⟩
set_option maxHeartbeats 4000000 in
theorem due3_calls (w : World) (g : Nat) (s : TS) (A : Option Addr) (n c : Nat) (hb : Blk w g 60 (tcells A n c s)) (hl : 0 ≤ s.pl ∧ s.pl ≤ 9223372036854775807) :
    Calls Try.prog 38 #[.pointer (some ⟨g, 3, none⟩)] w fun e w' => e = .returned (.bool (s.ps && (s.pl == 0))) ∧ Keep g w w' ∧ Blk w' g 60 #[.slice A n c, .int .i64 s.sure, .int .i64 s.steps, .bool s.ps, .int .i64 (duel s.ps s.pl), .bool s.fs, .int .i64 s.fl, .bool s.dn] := by
  refine calls_flow Try.func38 rfl 25 rfl (Nat.le_of_ble_eq_true rfl) [(0, .pointer (some ⟨g, 3, none⟩))] ?_ ?_
  · intro t v h; exact args_look rfl t v h
  refine w_seq ?_
  refine w_region ?_
  refine rw_val (v := .bool false) (w' := w) rfl rfl rfl rfl rfl ?_
  refine rw_end ?_
  refine w_seq ?_
  refine w_seq ?_
  refine w_region ?_
  refine rw_val (v := .pointer (some ⟨g, 3, none⟩)) (w' := w) rfl rfl rfl rfl rfl ?_
  refine rw_val (v := .pointer (some ⟨g, 3, none⟩)) (w' := w) rfl rfl rfl rfl (by simp [go_sem, sEv, sLook, nbeq, i64_w]) ?_
  refine rw_val (v := .pointer (some ⟨g, 3, none⟩)) (w' := w) rfl rfl rfl rfl (by simp [go_sem, sEv, sLook, nbeq, i64_w, Try.underlying58]) ?_
  refine rw_val (v := .bool s.ps) (w' := w) rfl rfl rfl rfl (by have eb_ := hb; have e0_ := eb_.cellv (i := 3) (v := (.bool s.ps : Value)) rfl; simp [go_sem, sEv, sLook, nbeq, i64_w, e0_]) ?_
  refine rw_val (v := .bool s.ps) (w' := w) rfl rfl rfl rfl rfl ?_
  rcases bcase s.ps with cS | cS
  · refine rw_off (c := s.ps) rfl rfl rfl (by simp [cS]) rfl rfl ?_
    refine rw_off (c := s.ps) rfl rfl rfl (by simp [cS]) rfl rfl ?_
    refine rw_off (c := s.ps) rfl rfl rfl (by simp [cS]) rfl rfl ?_
    refine rw_off (c := s.ps) rfl rfl rfl (by simp [cS]) rfl rfl ?_
    refine rw_off (c := s.ps) rfl rfl rfl (by simp [cS]) rfl rfl ?_
    refine rw_val (v := .bool false) (w' := w) rfl rfl rfl rfl (by simp [go_sem, sEv, sLook, nbeq, i64_w, cS]) ?_
    refine rw_end ?_
    refine w_weaken (G' := [(0, .pointer (some ⟨g, 3, none⟩)), (2, .bool false), (13, .bool false)]) ⟨rfl, rfl, rfl, trivial⟩ ?_
    refine w_cond_f rfl rfl rfl ?_
    refine w_skip ?_
    refine w_seq ?_
    refine w_seq ?_
    refine w_region ?_
    refine rw_val (v := .pointer (some ⟨g, 3, none⟩)) (w' := w) rfl rfl rfl rfl rfl ?_
    refine rw_val (v := .pointer (some ⟨g, 3, none⟩)) (w' := w) rfl rfl rfl rfl (by simp [go_sem, sEv, sLook, nbeq, i64_w]) ?_
    refine rw_val (v := .pointer (some ⟨g, 3, none⟩)) (w' := w) rfl rfl rfl rfl (by simp [go_sem, sEv, sLook, nbeq, i64_w, Try.underlying58]) ?_
    refine rw_val (v := .bool s.ps) (w' := w) rfl rfl rfl rfl (by have eb_ := hb; have e0_ := eb_.cellv (i := 3) (v := (.bool s.ps : Value)) rfl; simp [go_sem, sEv, sLook, nbeq, i64_w, e0_]) ?_
    refine rw_end ?_
    refine w_weaken (G' := [(0, .pointer (some ⟨g, 3, none⟩)), (2, .bool false), (17, .bool s.ps)]) ⟨rfl, rfl, rfl, trivial⟩ ?_
    refine w_cond_f rfl rfl cS ?_
    refine w_skip ?_
    refine w_seq ?_
    refine w_region ?_
    refine rw_val (v := .bool false) (w' := w) rfl rfl rfl rfl rfl ?_
    refine rw_end ?_
    refine w_ret (post_ret1 rfl rfl ?_)
    have d_ : duel s.ps s.pl = s.pl := by unfold duel; simp [cS]
    have b_ : (s.ps && (s.pl == 0)) = false := by simp [cS]
    rw [d_, b_]
    exact ⟨rfl, Keep.refl _ _, hb⟩
  · refine rw_gval (c := s.ps) (v := .pointer (some ⟨g, 3, none⟩)) (w' := w) rfl rfl rfl (by simp [cS]) rfl rfl rfl (by rfl) ?_
    refine rw_gval (c := s.ps) (v := .pointer (some ⟨g, 3, none⟩)) (w' := w) rfl rfl rfl (by simp [cS]) rfl rfl rfl (by simp [go_sem, sEv, sLook, nbeq, i64_w]) ?_
    refine rw_gval (c := s.ps) (v := .pointer (some ⟨g, 4, none⟩)) (w' := w) rfl rfl rfl (by simp [cS]) rfl rfl rfl (by simp [go_sem, sEv, sLook, nbeq, i64_w, Try.underlying58]) ?_
    refine rw_gval (c := s.ps) (v := .int .i64 s.pl) (w' := w) rfl rfl rfl (by simp [cS]) rfl rfl rfl (by have eb_ := hb; have e0_ := eb_.cellv (i := 4) (v := (.int .i64 s.pl : Value)) rfl; simp [go_sem, sEv, sLook, nbeq, i64_w, e0_]) ?_
    refine rw_gval (c := s.ps) (v := .bool (s.pl == 0)) (w' := w) rfl rfl rfl (by simp [cS]) rfl rfl rfl (by simp [go_sem, sEv, sLook, nbeq, i64_w]) ?_
    refine rw_val (v := .bool (s.pl == 0)) (w' := w) rfl rfl rfl rfl (by simp [go_sem, sEv, sLook, nbeq, i64_w, cS]) ?_
    refine rw_end ?_
    refine w_weaken (G' := [(0, .pointer (some ⟨g, 3, none⟩)), (2, .bool false), (13, .bool (s.pl == 0))]) ⟨rfl, rfl, rfl, trivial⟩ ?_
    refine w_cond rfl rfl (fun cL => ?_) (fun cL => ?_)
    · refine w_seq ?_
      refine w_region ?_
      refine rw_val (v := .bool true) (w' := w) rfl rfl rfl rfl rfl ?_
      refine rw_end ?_
      refine w_ret (post_ret1 rfl rfl ?_)
      have d_ : duel s.ps s.pl = s.pl := by unfold duel; simp [cS, cL]
      have b_ : (s.ps && (s.pl == 0)) = true := by simp [cS, cL]
      rw [d_, b_]
      exact ⟨rfl, Keep.refl _ _, hb⟩
    · refine w_skip ?_
      refine w_seq ?_
      refine w_seq ?_
      refine w_region ?_
      refine rw_val (v := .pointer (some ⟨g, 3, none⟩)) (w' := w) rfl rfl rfl rfl rfl ?_
      refine rw_val (v := .pointer (some ⟨g, 3, none⟩)) (w' := w) rfl rfl rfl rfl (by simp [go_sem, sEv, sLook, nbeq, i64_w]) ?_
      refine rw_val (v := .pointer (some ⟨g, 3, none⟩)) (w' := w) rfl rfl rfl rfl (by simp [go_sem, sEv, sLook, nbeq, i64_w, Try.underlying58]) ?_
      refine rw_val (v := .bool s.ps) (w' := w) rfl rfl rfl rfl (by have eb_ := hb; have e0_ := eb_.cellv (i := 3) (v := (.bool s.ps : Value)) rfl; simp [go_sem, sEv, sLook, nbeq, i64_w, e0_]) ?_
      refine rw_end ?_
      refine w_weaken (G' := [(0, .pointer (some ⟨g, 3, none⟩)), (2, .bool false), (17, .bool s.ps)]) ⟨rfl, rfl, rfl, trivial⟩ ?_
      refine w_cond_t rfl rfl cS ?_
      refine w_region ?_
      refine rw_val (v := .pointer (some ⟨g, 3, none⟩)) (w' := w) rfl rfl rfl rfl rfl ?_
      refine rw_val (v := .pointer (some ⟨g, 3, none⟩)) (w' := w) rfl rfl rfl rfl (by simp [go_sem, sEv, sLook, nbeq, i64_w]) ?_
      refine rw_val (v := .pointer (some ⟨g, 4, none⟩)) (w' := w) rfl rfl rfl rfl (by simp [go_sem, sEv, sLook, nbeq, i64_w, Try.underlying58]) ?_
      refine rw_val (v := .int .i64 s.pl) (w' := w) rfl rfl rfl rfl (by have eb_ := hb; have e0_ := eb_.cellv (i := 4) (v := (.int .i64 s.pl : Value)) rfl; simp [go_sem, sEv, sLook, nbeq, i64_w, e0_]) ?_
      refine rw_val (v := .int .i64 (s.pl - 1)) (w' := w) rfl rfl rfl rfl (by simp [go_sem, sEv, sLook, nbeq, i64_w]; have := hl.1; have : ¬ s.pl = 0 := (by simpa using cL); exact wrap_id (by omega) (by omega)) ?_
      refine rw_val (v := .pointer (some ⟨g, 3, none⟩)) (w' := w) rfl rfl rfl rfl (by simp [go_sem, sEv, sLook, nbeq, i64_w]) ?_
      refine rw_val (v := .pointer (some ⟨g, 4, none⟩)) (w' := w) rfl rfl rfl rfl (by simp [go_sem, sEv, sLook, nbeq, i64_w, Try.underlying58]) ?_
      have hb4 := hb
      refine rw_store (g := g) (i := 4) (l := [.int .i64 (s.pl - 1)]) (cs' := #[.slice A n c, .int .i64 s.sure, .int .i64 s.steps, .bool s.ps, .int .i64 (s.pl - 1), .bool s.fs, .int .i64 s.fl, .bool s.dn]) rfl rfl rfl hb4 rfl (by have e0_ := hb4.cellv (i := 4) (v := (.int .i64 s.pl : Value)) rfl; have f0_ := hb4.frozen 4; simp [go_sem, sEv, sLook, nbeq, i64_w, putCells, e0_, f0_]) ?_
      intro w1 hk2 hk3
      have hs_w1 := hk2.size
      refine rw_end ?_
      refine w_weaken (G' := [(2, .bool false)]) ⟨rfl, trivial⟩ ?_
      refine w_seq ?_
      refine w_region ?_
      refine rw_val (v := .bool false) (w' := w1) rfl rfl rfl rfl rfl ?_
      refine rw_end ?_
      refine w_ret (post_ret1 rfl rfl ?_)
      have d_ : duel s.ps s.pl = s.pl - 1 := by unfold duel; simp [cS, cL]
      have b_ : (s.ps && (s.pl == 0)) = false := by simp [cS, cL]
      rw [d_, b_]
      exact ⟨rfl, hk2, hk3⟩
set_option maxHeartbeats 4000000 in
theorem due5_calls (w : World) (g : Nat) (s : TS) (A : Option Addr) (n c : Nat) (hb : Blk w g 60 (tcells A n c s)) (hl : 0 ≤ s.fl ∧ s.fl ≤ 9223372036854775807) :
    Calls Try.prog 38 #[.pointer (some ⟨g, 5, none⟩)] w fun e w' => e = .returned (.bool (s.fs && (s.fl == 0))) ∧ Keep g w w' ∧ Blk w' g 60 #[.slice A n c, .int .i64 s.sure, .int .i64 s.steps, .bool s.ps, .int .i64 s.pl, .bool s.fs, .int .i64 (duel s.fs s.fl), .bool s.dn] := by
  refine calls_flow Try.func38 rfl 25 rfl (Nat.le_of_ble_eq_true rfl) [(0, .pointer (some ⟨g, 5, none⟩))] ?_ ?_
  · intro t v h; exact args_look rfl t v h
  refine w_seq ?_
  refine w_region ?_
  refine rw_val (v := .bool false) (w' := w) rfl rfl rfl rfl rfl ?_
  refine rw_end ?_
  refine w_seq ?_
  refine w_seq ?_
  refine w_region ?_
  refine rw_val (v := .pointer (some ⟨g, 5, none⟩)) (w' := w) rfl rfl rfl rfl rfl ?_
  refine rw_val (v := .pointer (some ⟨g, 5, none⟩)) (w' := w) rfl rfl rfl rfl (by simp [go_sem, sEv, sLook, nbeq, i64_w]) ?_
  refine rw_val (v := .pointer (some ⟨g, 5, none⟩)) (w' := w) rfl rfl rfl rfl (by simp [go_sem, sEv, sLook, nbeq, i64_w, Try.underlying58]) ?_
  refine rw_val (v := .bool s.fs) (w' := w) rfl rfl rfl rfl (by have eb_ := hb; have e0_ := eb_.cellv (i := 5) (v := (.bool s.fs : Value)) rfl; simp [go_sem, sEv, sLook, nbeq, i64_w, e0_]) ?_
  refine rw_val (v := .bool s.fs) (w' := w) rfl rfl rfl rfl rfl ?_
  rcases bcase s.fs with cS | cS
  · refine rw_off (c := s.fs) rfl rfl rfl (by simp [cS]) rfl rfl ?_
    refine rw_off (c := s.fs) rfl rfl rfl (by simp [cS]) rfl rfl ?_
    refine rw_off (c := s.fs) rfl rfl rfl (by simp [cS]) rfl rfl ?_
    refine rw_off (c := s.fs) rfl rfl rfl (by simp [cS]) rfl rfl ?_
    refine rw_off (c := s.fs) rfl rfl rfl (by simp [cS]) rfl rfl ?_
    refine rw_val (v := .bool false) (w' := w) rfl rfl rfl rfl (by simp [go_sem, sEv, sLook, nbeq, i64_w, cS]) ?_
    refine rw_end ?_
    refine w_weaken (G' := [(0, .pointer (some ⟨g, 5, none⟩)), (2, .bool false), (13, .bool false)]) ⟨rfl, rfl, rfl, trivial⟩ ?_
    refine w_cond_f rfl rfl rfl ?_
    refine w_skip ?_
    refine w_seq ?_
    refine w_seq ?_
    refine w_region ?_
    refine rw_val (v := .pointer (some ⟨g, 5, none⟩)) (w' := w) rfl rfl rfl rfl rfl ?_
    refine rw_val (v := .pointer (some ⟨g, 5, none⟩)) (w' := w) rfl rfl rfl rfl (by simp [go_sem, sEv, sLook, nbeq, i64_w]) ?_
    refine rw_val (v := .pointer (some ⟨g, 5, none⟩)) (w' := w) rfl rfl rfl rfl (by simp [go_sem, sEv, sLook, nbeq, i64_w, Try.underlying58]) ?_
    refine rw_val (v := .bool s.fs) (w' := w) rfl rfl rfl rfl (by have eb_ := hb; have e0_ := eb_.cellv (i := 5) (v := (.bool s.fs : Value)) rfl; simp [go_sem, sEv, sLook, nbeq, i64_w, e0_]) ?_
    refine rw_end ?_
    refine w_weaken (G' := [(0, .pointer (some ⟨g, 5, none⟩)), (2, .bool false), (17, .bool s.fs)]) ⟨rfl, rfl, rfl, trivial⟩ ?_
    refine w_cond_f rfl rfl cS ?_
    refine w_skip ?_
    refine w_seq ?_
    refine w_region ?_
    refine rw_val (v := .bool false) (w' := w) rfl rfl rfl rfl rfl ?_
    refine rw_end ?_
    refine w_ret (post_ret1 rfl rfl ?_)
    have d_ : duel s.fs s.fl = s.fl := by unfold duel; simp [cS]
    have b_ : (s.fs && (s.fl == 0)) = false := by simp [cS]
    rw [d_, b_]
    exact ⟨rfl, Keep.refl _ _, hb⟩
  · refine rw_gval (c := s.fs) (v := .pointer (some ⟨g, 5, none⟩)) (w' := w) rfl rfl rfl (by simp [cS]) rfl rfl rfl (by rfl) ?_
    refine rw_gval (c := s.fs) (v := .pointer (some ⟨g, 5, none⟩)) (w' := w) rfl rfl rfl (by simp [cS]) rfl rfl rfl (by simp [go_sem, sEv, sLook, nbeq, i64_w]) ?_
    refine rw_gval (c := s.fs) (v := .pointer (some ⟨g, 6, none⟩)) (w' := w) rfl rfl rfl (by simp [cS]) rfl rfl rfl (by simp [go_sem, sEv, sLook, nbeq, i64_w, Try.underlying58]) ?_
    refine rw_gval (c := s.fs) (v := .int .i64 s.fl) (w' := w) rfl rfl rfl (by simp [cS]) rfl rfl rfl (by have eb_ := hb; have e0_ := eb_.cellv (i := 6) (v := (.int .i64 s.fl : Value)) rfl; simp [go_sem, sEv, sLook, nbeq, i64_w, e0_]) ?_
    refine rw_gval (c := s.fs) (v := .bool (s.fl == 0)) (w' := w) rfl rfl rfl (by simp [cS]) rfl rfl rfl (by simp [go_sem, sEv, sLook, nbeq, i64_w]) ?_
    refine rw_val (v := .bool (s.fl == 0)) (w' := w) rfl rfl rfl rfl (by simp [go_sem, sEv, sLook, nbeq, i64_w, cS]) ?_
    refine rw_end ?_
    refine w_weaken (G' := [(0, .pointer (some ⟨g, 5, none⟩)), (2, .bool false), (13, .bool (s.fl == 0))]) ⟨rfl, rfl, rfl, trivial⟩ ?_
    refine w_cond rfl rfl (fun cL => ?_) (fun cL => ?_)
    · refine w_seq ?_
      refine w_region ?_
      refine rw_val (v := .bool true) (w' := w) rfl rfl rfl rfl rfl ?_
      refine rw_end ?_
      refine w_ret (post_ret1 rfl rfl ?_)
      have d_ : duel s.fs s.fl = s.fl := by unfold duel; simp [cS, cL]
      have b_ : (s.fs && (s.fl == 0)) = true := by simp [cS, cL]
      rw [d_, b_]
      exact ⟨rfl, Keep.refl _ _, hb⟩
    · refine w_skip ?_
      refine w_seq ?_
      refine w_seq ?_
      refine w_region ?_
      refine rw_val (v := .pointer (some ⟨g, 5, none⟩)) (w' := w) rfl rfl rfl rfl rfl ?_
      refine rw_val (v := .pointer (some ⟨g, 5, none⟩)) (w' := w) rfl rfl rfl rfl (by simp [go_sem, sEv, sLook, nbeq, i64_w]) ?_
      refine rw_val (v := .pointer (some ⟨g, 5, none⟩)) (w' := w) rfl rfl rfl rfl (by simp [go_sem, sEv, sLook, nbeq, i64_w, Try.underlying58]) ?_
      refine rw_val (v := .bool s.fs) (w' := w) rfl rfl rfl rfl (by have eb_ := hb; have e0_ := eb_.cellv (i := 5) (v := (.bool s.fs : Value)) rfl; simp [go_sem, sEv, sLook, nbeq, i64_w, e0_]) ?_
      refine rw_end ?_
      refine w_weaken (G' := [(0, .pointer (some ⟨g, 5, none⟩)), (2, .bool false), (17, .bool s.fs)]) ⟨rfl, rfl, rfl, trivial⟩ ?_
      refine w_cond_t rfl rfl cS ?_
      refine w_region ?_
      refine rw_val (v := .pointer (some ⟨g, 5, none⟩)) (w' := w) rfl rfl rfl rfl rfl ?_
      refine rw_val (v := .pointer (some ⟨g, 5, none⟩)) (w' := w) rfl rfl rfl rfl (by simp [go_sem, sEv, sLook, nbeq, i64_w]) ?_
      refine rw_val (v := .pointer (some ⟨g, 6, none⟩)) (w' := w) rfl rfl rfl rfl (by simp [go_sem, sEv, sLook, nbeq, i64_w, Try.underlying58]) ?_
      refine rw_val (v := .int .i64 s.fl) (w' := w) rfl rfl rfl rfl (by have eb_ := hb; have e0_ := eb_.cellv (i := 6) (v := (.int .i64 s.fl : Value)) rfl; simp [go_sem, sEv, sLook, nbeq, i64_w, e0_]) ?_
      refine rw_val (v := .int .i64 (s.fl - 1)) (w' := w) rfl rfl rfl rfl (by simp [go_sem, sEv, sLook, nbeq, i64_w]; have := hl.1; have : ¬ s.fl = 0 := (by simpa using cL); exact wrap_id (by omega) (by omega)) ?_
      refine rw_val (v := .pointer (some ⟨g, 5, none⟩)) (w' := w) rfl rfl rfl rfl (by simp [go_sem, sEv, sLook, nbeq, i64_w]) ?_
      refine rw_val (v := .pointer (some ⟨g, 6, none⟩)) (w' := w) rfl rfl rfl rfl (by simp [go_sem, sEv, sLook, nbeq, i64_w, Try.underlying58]) ?_
      have hb4 := hb
      refine rw_store (g := g) (i := 6) (l := [.int .i64 (s.fl - 1)]) (cs' := #[.slice A n c, .int .i64 s.sure, .int .i64 s.steps, .bool s.ps, .int .i64 s.pl, .bool s.fs, .int .i64 (s.fl - 1), .bool s.dn]) rfl rfl rfl hb4 rfl (by have e0_ := hb4.cellv (i := 6) (v := (.int .i64 s.fl : Value)) rfl; have f0_ := hb4.frozen 6; simp [go_sem, sEv, sLook, nbeq, i64_w, putCells, e0_, f0_]) ?_
      intro w1 hk2 hk3
      have hs_w1 := hk2.size
      refine rw_end ?_
      refine w_weaken (G' := [(2, .bool false)]) ⟨rfl, trivial⟩ ?_
      refine w_seq ?_
      refine w_region ?_
      refine rw_val (v := .bool false) (w' := w1) rfl rfl rfl rfl rfl ?_
      refine rw_end ?_
      refine w_ret (post_ret1 rfl rfl ?_)
      have d_ : duel s.fs s.fl = s.fl - 1 := by unfold duel; simp [cS, cL]
      have b_ : (s.fs && (s.fl == 0)) = false := by simp [cS, cL]
      rw [d_, b_]
      exact ⟨rfl, hk2, hk3⟩
end Go.Proofs.Ytpbpeklbmmbigaa.Tp
