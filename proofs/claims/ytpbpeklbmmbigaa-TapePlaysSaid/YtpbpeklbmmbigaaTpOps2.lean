/- A tape's methods: the walks, second part. -/
import Derived.Test.YtpbpeklbmmbigaaTpOps
namespace Go.Proofs.Ytpbpeklbmmbigaa.Tp
open Go.RowKit Go.Proofs.YtpbpeklbmmbigaaW.PrintWords Go.Proofs.YtpbpeklbmmbigaaW.PrintLast Go.Proofs.YtpbpeklbmmbigaaW.PrintMore
open Go.Proofs.Ytpbpeklbmmbigaa.Flow
set_option linter.unusedVariables false
set_option linter.unusedSimpArgs false

set_option maxHeartbeats 4000000 in
theorem step_raw (w0 w : World) (g m : Nat) (x : Nat → Prop) (hx : ∀ q, x q → q < w.heap.size) (s : TS) (A : Option Addr) (n c : Nat) (hB : Below w0.heap.size w0 w) (hg0 : w0.heap.size ≤ g) (hm : g < m ∧ m ≤ w.heap.size) (hb : Blk w g 60 (tcells A n c s)) (hR : BR .u8 5 w w0.heap.size (fun q => g < q ∧ q < m ∧ ¬ x q) A n c s.xs) (hok : s.Ok)  :
    Calls Try.prog 29 #[.pointer (some ⟨g, 0, none⟩)] w fun e w' => e = .returned (errT s.err) ∧ TapeAt w0 w' g m x s.next ∧ w.heap.size ≤ w'.heap.size ∧ (∀ q, x q → q ≠ g → w'.heap[q]? = w.heap[q]?) ∧ Keep g w w' := by
  refine calls_flow Try.func29 rfl 39 rfl (Nat.le_of_ble_eq_true rfl) [(0, .pointer (some ⟨g, 0, none⟩))] ?_ ?_
  · intro t v h; exact args_look rfl t v h
  refine w_seq ?_
  refine w_region ?_
  refine rw_val (v := .nilIface) (w' := w) rfl rfl rfl rfl rfl ?_
  refine rw_end ?_
  refine w_seq ?_
  refine w_seq ?_
  refine w_region ?_
  refine rw_val (v := .pointer (some ⟨g, 0, none⟩)) (w' := w) rfl rfl rfl rfl rfl ?_
  refine rw_val (v := .bool false) (w' := w) rfl rfl rfl rfl (run_as (run_ptr_eql (e := 60) (by kernel_rfl) _ _)) ?_
  refine rw_val (v := .bool false) (w' := w) rfl rfl rfl rfl rfl ?_
  refine rw_gval (c := false) (v := .pointer (some ⟨g, 0, none⟩)) (w' := w) rfl rfl rfl rfl rfl rfl rfl (by rfl) ?_
  refine rw_gval (c := false) (v := .pointer (some ⟨g, 0, none⟩)) (w' := w) rfl rfl rfl rfl rfl rfl rfl (by simp [go_sem, sEv, sLook, nbeq, i64_w]) ?_
  refine rw_gval (c := false) (v := .pointer (some ⟨g, 7, none⟩)) (w' := w) rfl rfl rfl rfl rfl rfl rfl (by simp [go_sem, sEv, sLook, nbeq, i64_w, Try.underlying60]) ?_
  refine rw_gval (c := false) (v := .bool s.dn) (w' := w) rfl rfl rfl rfl rfl rfl rfl (by have eb_ := hb; have e0_ := eb_.cellv (i := 7) (v := (.bool s.dn : Value)) rfl; simp [go_sem, sEv, sLook, nbeq, i64_w, e0_]) ?_
  refine rw_val (v := .bool s.dn) (w' := w) rfl rfl rfl rfl (by simp [go_sem, sEv, sLook, nbeq, i64_w]) ?_
  refine rw_val (v := .bool s.dn) (w' := w) rfl rfl rfl rfl rfl ?_
  rcases bcase s.dn with cDn | cDn
  · refine rw_gval (c := s.dn) (v := .pointer (some ⟨g, 0, none⟩)) (w' := w) rfl rfl rfl (by simp [cDn]) rfl rfl rfl (by rfl) ?_
    refine rw_gval (c := s.dn) (v := .pointer (some ⟨g, 0, none⟩)) (w' := w) rfl rfl rfl (by simp [cDn]) rfl rfl rfl (by simp [go_sem, sEv, sLook, nbeq, i64_w]) ?_
    refine rw_gval (c := s.dn) (v := .pointer (some ⟨g, 3, none⟩)) (w' := w) rfl rfl rfl (by simp [cDn]) rfl rfl rfl (by simp [go_sem, sEv, sLook, nbeq, i64_w, Try.underlying60]) ?_
    refine rw_gcall (c := s.dn) rfl rfl rfl (by simp [cDn]) rfl rfl rfl (f := 38) (args := #[.pointer (some ⟨g, 3, none⟩)]) (by simp [go_sem, sEv, sLook, nbeq, i64_w]) (due3_calls w g ⟨s.xs, s.sure, s.steps, s.ps, s.pl, s.fs, s.fl, s.dn⟩ A n c hb hok.pl) ?_
    rintro e_ w1 ⟨rfl, hk2, hb3⟩
    refine ⟨.bool (s.ps && (s.pl == 0)), rfl, ?_⟩
    have hs_w1 := hk2.size
    refine rw_val (v := .bool (s.ps && (s.pl == 0))) (w' := w1) rfl rfl rfl rfl (by simp [go_sem, sEv, sLook, nbeq, i64_w, cDn]) ?_
    refine rw_end ?_
    refine w_weaken (G' := [(0, .pointer (some ⟨g, 0, none⟩)), (2, .nilIface), (16, .bool (s.ps && (s.pl == 0)))]) ⟨rfl, rfl, rfl, trivial⟩ ?_
    refine w_cond rfl rfl (fun cP => ?_) (fun cP => ?_)
    · refine w_seq ?_
      refine w_seq ?_
      refine w_region ?_
      refine rw_val (v := .pointer (some ⟨g, 0, none⟩)) (w' := w1) rfl rfl rfl rfl rfl ?_
      refine rw_val (v := .bool true) (w' := w1) rfl rfl rfl rfl (run_as (run_ptr_neq (e := 60) (by kernel_rfl) _ _)) ?_
      refine rw_end ?_
      refine w_cond_t rfl rfl rfl ?_
      refine w_region ?_
      refine rw_val (v := .pointer (some ⟨g, 0, none⟩)) (w' := w1) rfl rfl rfl rfl rfl ?_
      refine rw_val (v := .pointer (some ⟨g, 0, none⟩)) (w' := w1) rfl rfl rfl rfl (by simp [go_sem, sEv, sLook, nbeq, i64_w]) ?_
      refine rw_val (v := .pointer (some ⟨g, 7, none⟩)) (w' := w1) rfl rfl rfl rfl (by simp [go_sem, sEv, sLook, nbeq, i64_w, Try.underlying60]) ?_
      have hb7 := hb3
      refine rw_store (g := g) (i := 7) (l := [.bool true]) (cs' := #[.slice A n c, .int .i64 s.sure, .int .i64 s.steps, .bool s.ps, .int .i64 (duel s.ps s.pl), .bool s.fs, .int .i64 s.fl, .bool true]) rfl rfl rfl hb7 rfl (by have e0_ := hb7.cellv (i := 7) (v := (.bool s.dn : Value)) rfl; have f0_ := hb7.frozen 7; simp [go_sem, sEv, sLook, nbeq, i64_w, putCells, e0_, f0_]) ?_
      intro w4 hk5 hk6
      have hs_w4 := hk5.size
      refine rw_end ?_
      refine w_weaken (G' := [(0, .pointer (some ⟨g, 0, none⟩)), (2, .nilIface)]) ⟨rfl, rfl, trivial⟩ ?_
      refine w_seq ?_
      refine w_region ?_
      refine rw_val (v := errT (some 5)) (w' := w4) rfl rfl rfl rfl (by simp [go_sem, sEv, sLook, nbeq, i64_w, errT]) ?_
      refine rw_val (v := errT (some 5)) (w' := w4) rfl rfl rfl rfl rfl ?_
      refine rw_end ?_
      refine w_ret (post_ret1 rfl rfl ?_)
      have e1_ : s.err = some 5 := by unfold TS.err; simp [cDn, cP]
      rw [e1_]
      have e2_ : s.next = ⟨s.xs, s.sure, s.steps, s.ps, duel s.ps s.pl, s.fs, s.fl, true⟩ := by have d_ : duel s.ps s.pl = s.pl := (by unfold duel; simp at cP; simp [cP]); rw [TS.next, if_neg (by simp [cDn]), if_pos cP, d_]
      rw [e2_]
      refine ⟨rfl, TapeAt.mkm (s := ⟨s.xs, s.sure, s.steps, s.ps, duel s.ps s.pl, s.fs, s.fl, true⟩) (hk5.below (by omega) (hk2.below (by omega) hB)) hg0 hk6 (BR.step (BR.step hR (fun q hq _ => hk2.block q (by have := hq.1; omega))) (fun q hq _ => hk5.block q (by have := hq.1; omega))) (fun q hq => hq) ⟨by omega, by omega⟩, by omega, (fun q hxq hxg => ((hk5.block q hxg).trans (hk2.block q hxg))), (hk2.trans hk5)⟩
    · refine w_skip ?_
      refine w_seq ?_
      refine w_region ?_
      refine rw_val (v := .pointer (some ⟨g, 0, none⟩)) (w' := w1) rfl rfl rfl rfl rfl ?_
      refine rw_val (v := .pointer (some ⟨g, 0, none⟩)) (w' := w1) rfl rfl rfl rfl (by simp [go_sem, sEv, sLook, nbeq, i64_w]) ?_
      refine rw_val (v := .pointer (some ⟨g, 2, none⟩)) (w' := w1) rfl rfl rfl rfl (by simp [go_sem, sEv, sLook, nbeq, i64_w, Try.underlying60]) ?_
      refine rw_val (v := .int .i64 s.steps) (w' := w1) rfl rfl rfl rfl (by have eb_ := hb3; have e0_ := eb_.cellv (i := 2) (v := (.int .i64 s.steps : Value)) rfl; simp [go_sem, sEv, sLook, nbeq, i64_w, e0_]) ?_
      refine rw_val (v := .int .i64 (s.steps + 1)) (w' := w1) rfl rfl rfl rfl (by simp [go_sem, sEv, sLook, nbeq, i64_w]; have := hok.steps; exact wrap_id (by omega) (by omega)) ?_
      refine rw_val (v := .pointer (some ⟨g, 0, none⟩)) (w' := w1) rfl rfl rfl rfl (by simp [go_sem, sEv, sLook, nbeq, i64_w]) ?_
      refine rw_val (v := .pointer (some ⟨g, 2, none⟩)) (w' := w1) rfl rfl rfl rfl (by simp [go_sem, sEv, sLook, nbeq, i64_w, Try.underlying60]) ?_
      have hb11 := hb3
      refine rw_store (g := g) (i := 2) (l := [.int .i64 (s.steps + 1)]) (cs' := #[.slice A n c, .int .i64 s.sure, .int .i64 (s.steps + 1), .bool s.ps, .int .i64 (duel s.ps s.pl), .bool s.fs, .int .i64 s.fl, .bool s.dn]) rfl rfl rfl hb11 rfl (by have e0_ := hb11.cellv (i := 2) (v := (.int .i64 s.steps : Value)) rfl; have f0_ := hb11.frozen 2; simp [go_sem, sEv, sLook, nbeq, i64_w, putCells, e0_, f0_]) ?_
      intro w8 hk9 hk10
      have hs_w8 := hk9.size
      refine rw_end ?_
      refine w_weaken (G' := [(0, .pointer (some ⟨g, 0, none⟩)), (2, .nilIface)]) ⟨rfl, rfl, trivial⟩ ?_
      refine w_seq ?_
      refine w_seq ?_
      refine w_region ?_
      refine rw_val (v := .pointer (some ⟨g, 0, none⟩)) (w' := w8) rfl rfl rfl rfl rfl ?_
      refine rw_val (v := .pointer (some ⟨g, 0, none⟩)) (w' := w8) rfl rfl rfl rfl (by simp [go_sem, sEv, sLook, nbeq, i64_w]) ?_
      refine rw_val (v := .pointer (some ⟨g, 5, none⟩)) (w' := w8) rfl rfl rfl rfl (by simp [go_sem, sEv, sLook, nbeq, i64_w, Try.underlying60]) ?_
      refine rw_call rfl rfl rfl rfl (f := 38) (args := #[.pointer (some ⟨g, 5, none⟩)]) (by simp [go_sem, sEv, sLook, nbeq, i64_w]) (due5_calls w8 g ⟨s.xs, s.sure, s.steps + 1, s.ps, duel s.ps s.pl, s.fs, s.fl, s.dn⟩ A n c hk10 hok.fl) ?_
      rintro e_ w12 ⟨rfl, hk13, hb14⟩
      refine ⟨.bool (s.fs && (s.fl == 0)), rfl, ?_⟩
      have hs_w12 := hk13.size
      refine rw_end ?_
      refine w_weaken (G' := [(0, .pointer (some ⟨g, 0, none⟩)), (2, .nilIface), (33, .bool (s.fs && (s.fl == 0)))]) ⟨rfl, rfl, rfl, trivial⟩ ?_
      refine w_cond rfl rfl (fun cF => ?_) (fun cF => ?_)
      · refine w_seq ?_
        refine w_region ?_
        refine rw_val (v := .pointer (some ⟨g, 0, none⟩)) (w' := w12) rfl rfl rfl rfl rfl ?_
        refine rw_val (v := .agg #[.bool false, .int .i64 0]) (w' := w12) rfl rfl rfl rfl (by kernel_rfl) ?_
        refine rw_val (v := .pointer (some ⟨g, 0, none⟩)) (w' := w12) rfl rfl rfl rfl (by simp [go_sem, sEv, sLook, nbeq, i64_w]) ?_
        refine rw_val (v := .pointer (some ⟨g, 5, none⟩)) (w' := w12) rfl rfl rfl rfl (by simp [go_sem, sEv, sLook, nbeq, i64_w, Try.underlying60]) ?_
        have hb18 := hb14
        refine rw_store (g := g) (i := 5) (l := [.bool false, .int .i64 0]) (cs' := #[.slice A n c, .int .i64 s.sure, .int .i64 (s.steps + 1), .bool s.ps, .int .i64 (duel s.ps s.pl), .bool false, .int .i64 0, .bool s.dn]) rfl rfl rfl hb18 rfl (by have e0_ := hb18.cellv (i := 5) (v := (.bool s.fs : Value)) rfl; have f0_ := hb18.frozen 5; have e1_ := hb18.cellv (i := 6) (v := (.int .i64 (duel s.fs s.fl) : Value)) rfl; have f1_ := hb18.frozen 6; simp [go_sem, sEv, sLook, nbeq, i64_w, putCells, e0_, f0_, e1_, f1_, Try.underlying58]) ?_
        intro w15 hk16 hk17
        have hs_w15 := hk16.size
        refine rw_end ?_
        refine w_weaken (G' := [(2, .nilIface)]) ⟨rfl, trivial⟩ ?_
        refine w_seq ?_
        refine w_region ?_
        refine rw_val (v := errT (some 6)) (w' := w15) rfl rfl rfl rfl (by simp [go_sem, sEv, sLook, nbeq, i64_w, errT]) ?_
        refine rw_val (v := errT (some 6)) (w' := w15) rfl rfl rfl rfl rfl ?_
        refine rw_end ?_
        refine w_ret (post_ret1 rfl rfl ?_)
        have e1_ : s.err = some 6 := by unfold TS.err; simp [cDn, cP, cF]
        rw [e1_]
        have e2_ : s.next = ⟨s.xs, s.sure, s.steps + 1, s.ps, duel s.ps s.pl, false, 0, s.dn⟩ := by rw [TS.next, if_neg (by simp [cDn]), if_neg (by rw [cP]; decide), if_pos cF]
        rw [e2_]
        refine ⟨rfl, TapeAt.mkm (s := ⟨s.xs, s.sure, s.steps + 1, s.ps, duel s.ps s.pl, false, 0, s.dn⟩) (hk16.below (by omega) (hk13.below (by omega) (hk9.below (by omega) (hk2.below (by omega) hB)))) hg0 hk17 (BR.step (BR.step (BR.step (BR.step hR (fun q hq _ => hk2.block q (by have := hq.1; omega))) (fun q hq _ => hk9.block q (by have := hq.1; omega))) (fun q hq _ => hk13.block q (by have := hq.1; omega))) (fun q hq _ => hk16.block q (by have := hq.1; omega))) (fun q hq => hq) ⟨by omega, by omega⟩, by omega, (fun q hxq hxg => ((hk16.block q hxg).trans ((hk13.block q hxg).trans ((hk9.block q hxg).trans (hk2.block q hxg))))), (((hk2.trans hk9).trans hk13).trans hk16)⟩
      · refine w_skip ?_
        refine w_seq ?_
        refine w_region ?_
        refine rw_val (v := .nilIface) (w' := w12) rfl rfl rfl rfl rfl ?_
        refine rw_end ?_
        refine w_ret (post_ret1 rfl rfl ?_)
        have e1_ : s.err = none := by unfold TS.err; simp [cDn, cP, cF]
        rw [e1_]
        have e2_ : s.next = ⟨s.xs, s.sure, s.steps + 1, s.ps, duel s.ps s.pl, s.fs, duel s.fs s.fl, s.dn⟩ := by rw [TS.next, if_neg (by simp [cDn]), if_neg (by rw [cP]; decide), if_neg (by rw [cF]; decide)]
        rw [e2_]
        refine ⟨rfl, TapeAt.mkm (s := ⟨s.xs, s.sure, s.steps + 1, s.ps, duel s.ps s.pl, s.fs, duel s.fs s.fl, s.dn⟩) (hk13.below (by omega) (hk9.below (by omega) (hk2.below (by omega) hB))) hg0 hb14 (BR.step (BR.step (BR.step hR (fun q hq _ => hk2.block q (by have := hq.1; omega))) (fun q hq _ => hk9.block q (by have := hq.1; omega))) (fun q hq _ => hk13.block q (by have := hq.1; omega))) (fun q hq => hq) ⟨by omega, by omega⟩, by omega, (fun q hxq hxg => ((hk13.block q hxg).trans ((hk9.block q hxg).trans (hk2.block q hxg)))), ((hk2.trans hk9).trans hk13)⟩
  · refine rw_off (c := s.dn) rfl rfl rfl (by simp [cDn]) rfl rfl ?_
    refine rw_off (c := s.dn) rfl rfl rfl (by simp [cDn]) rfl rfl ?_
    refine rw_off (c := s.dn) rfl rfl rfl (by simp [cDn]) rfl rfl ?_
    refine rw_off (c := s.dn) rfl rfl rfl (by simp [cDn]) rfl rfl ?_
    refine rw_val (v := .bool true) (w' := w) rfl rfl rfl rfl (by simp [go_sem, sEv, sLook, nbeq, i64_w, cDn]) ?_
    refine rw_end ?_
    refine w_weaken (G' := [(0, .pointer (some ⟨g, 0, none⟩)), (2, .nilIface), (16, .bool true)]) ⟨rfl, rfl, rfl, trivial⟩ ?_
    refine w_cond_t rfl rfl rfl ?_
    refine w_seq ?_
    refine w_seq ?_
    refine w_region ?_
    refine rw_val (v := .pointer (some ⟨g, 0, none⟩)) (w' := w) rfl rfl rfl rfl rfl ?_
    refine rw_val (v := .bool true) (w' := w) rfl rfl rfl rfl (run_as (run_ptr_neq (e := 60) (by kernel_rfl) _ _)) ?_
    refine rw_end ?_
    refine w_cond_t rfl rfl rfl ?_
    refine w_region ?_
    refine rw_val (v := .pointer (some ⟨g, 0, none⟩)) (w' := w) rfl rfl rfl rfl rfl ?_
    refine rw_val (v := .pointer (some ⟨g, 0, none⟩)) (w' := w) rfl rfl rfl rfl (by simp [go_sem, sEv, sLook, nbeq, i64_w]) ?_
    refine rw_val (v := .pointer (some ⟨g, 7, none⟩)) (w' := w) rfl rfl rfl rfl (by simp [go_sem, sEv, sLook, nbeq, i64_w, Try.underlying60]) ?_
    have hb22 := hb
    refine rw_store (g := g) (i := 7) (l := [.bool true]) (cs' := #[.slice A n c, .int .i64 s.sure, .int .i64 s.steps, .bool s.ps, .int .i64 s.pl, .bool s.fs, .int .i64 s.fl, .bool true]) rfl rfl rfl hb22 rfl (by have e0_ := hb22.cellv (i := 7) (v := (.bool s.dn : Value)) rfl; have f0_ := hb22.frozen 7; simp [go_sem, sEv, sLook, nbeq, i64_w, putCells, e0_, f0_]) ?_
    intro w19 hk20 hk21
    have hs_w19 := hk20.size
    refine rw_end ?_
    refine w_weaken (G' := [(0, .pointer (some ⟨g, 0, none⟩)), (2, .nilIface)]) ⟨rfl, rfl, trivial⟩ ?_
    refine w_seq ?_
    refine w_region ?_
    refine rw_val (v := errT (some 5)) (w' := w19) rfl rfl rfl rfl (by simp [go_sem, sEv, sLook, nbeq, i64_w, errT]) ?_
    refine rw_val (v := errT (some 5)) (w' := w19) rfl rfl rfl rfl rfl ?_
    refine rw_end ?_
    refine w_ret (post_ret1 rfl rfl ?_)
    have e1_ : s.err = some 5 := by unfold TS.err; simp [cDn]
    rw [e1_]
    have e2_ : s.next = ⟨s.xs, s.sure, s.steps, s.ps, s.pl, s.fs, s.fl, true⟩ := by rw [TS.next, if_pos cDn]; cases s; simp only at cDn; subst cDn; rfl
    rw [e2_]
    refine ⟨rfl, TapeAt.mkm (s := ⟨s.xs, s.sure, s.steps, s.ps, s.pl, s.fs, s.fl, true⟩) (hk20.below (by omega) hB) hg0 hk21 (BR.step hR (fun q hq _ => hk20.block q (by have := hq.1; omega))) (fun q hq => hq) ⟨by omega, by omega⟩, by omega, (fun q hxq hxg => (hk20.block q hxg)), hk20⟩
theorem step_T (w0 w : World) (g m : Nat) (x : Nat → Prop) (hx : ∀ q, x q → q < w.heap.size) (s : TS) (hT : TapeAt w0 w g m x s) (hok : s.Ok)  : Calls Try.prog 29 #[.pointer (some ⟨g, 0, none⟩)] w fun e w' => e = .returned (errT s.err) ∧ TapeAt w0 w' g m x s.next ∧ w.heap.size ≤ w'.heap.size ∧ (∀ q, x q → q ≠ g → w'.heap[q]? = w.heap[q]?) ∧ Keep g w w' := by
  obtain ⟨hB, hg0, hm, A, n, c, hb, hR⟩ := hT
  exact step_raw w0 w g m x hx s A n c hB hg0 hm hb hR hok
set_option maxHeartbeats 4000000 in
theorem sure_raw (w0 w : World) (g m : Nat) (x : Nat → Prop) (hx : ∀ q, x q → q < w.heap.size) (s : TS) (A : Option Addr) (n c : Nat) (hB : Below w0.heap.size w0 w) (hg0 : w0.heap.size ≤ g) (hm : g < m ∧ m ≤ w.heap.size) (hb : Blk w g 60 (tcells A n c s)) (hR : BR .u8 5 w w0.heap.size (fun q => g < q ∧ q < m ∧ ¬ x q) A n c s.xs) (hok : s.Ok) :
    Calls Try.prog 16 #[.pointer (some ⟨g, 0, none⟩)] w fun e w' => e = .returned (.int .i64 s.sure) ∧ w = w' := by
  refine calls_flow Try.func16 rfl 9 rfl (Nat.le_of_ble_eq_true rfl) [(0, .pointer (some ⟨g, 0, none⟩))] ?_ ?_
  · intro t v h; exact args_look rfl t v h
  refine w_seq ?_
  refine w_region ?_
  refine rw_val (v := .int .i64 0) (w' := w) rfl rfl rfl rfl rfl ?_
  refine rw_end ?_
  refine w_seq ?_
  refine w_seq ?_
  refine w_region ?_
  refine rw_val (v := .pointer (some ⟨g, 0, none⟩)) (w' := w) rfl rfl rfl rfl rfl ?_
  refine rw_val (v := .bool false) (w' := w) rfl rfl rfl rfl (run_as (run_ptr_eql (e := 60) (by kernel_rfl) _ _)) ?_
  refine rw_end ?_
  refine w_cond_f rfl rfl rfl ?_
  refine w_skip ?_
  refine w_seq ?_
  refine w_region ?_
  refine rw_val (v := .pointer (some ⟨g, 0, none⟩)) (w' := w) rfl rfl rfl rfl rfl ?_
  refine rw_val (v := .pointer (some ⟨g, 0, none⟩)) (w' := w) rfl rfl rfl rfl (by simp [go_sem, sEv, sLook, nbeq, i64_w]) ?_
  refine rw_val (v := .pointer (some ⟨g, 1, none⟩)) (w' := w) rfl rfl rfl rfl (by simp [go_sem, sEv, sLook, nbeq, i64_w, Try.underlying60]) ?_
  refine rw_val (v := .int .i64 s.sure) (w' := w) rfl rfl rfl rfl (by have eb_ := hb; have e0_ := eb_.cellv (i := 1) (v := (.int .i64 s.sure : Value)) rfl; simp [go_sem, sEv, sLook, nbeq, i64_w, e0_]) ?_
  refine rw_val (v := .int .i64 s.sure) (w' := w) rfl rfl rfl rfl rfl ?_
  refine rw_end ?_
  refine w_weaken (G' := [(2, .int .i64 s.sure)]) ⟨rfl, trivial⟩ ?_
  refine w_ret (post_ret1 rfl rfl ?_)
  exact ⟨rfl, rfl⟩
theorem sure_T (w0 w : World) (g m : Nat) (x : Nat → Prop) (hx : ∀ q, x q → q < w.heap.size) (s : TS) (hT : TapeAt w0 w g m x s) (hok : s.Ok) : Calls Try.prog 16 #[.pointer (some ⟨g, 0, none⟩)] w fun e w' => e = .returned (.int .i64 s.sure) ∧ w = w' := by
  obtain ⟨hB, hg0, hm, A, n, c, hb, hR⟩ := hT
  exact sure_raw w0 w g m x hx s A n c hB hg0 hm hb hR hok
set_option maxHeartbeats 4000000 in
theorem steps_raw (w0 w : World) (g m : Nat) (x : Nat → Prop) (hx : ∀ q, x q → q < w.heap.size) (s : TS) (A : Option Addr) (n c : Nat) (hB : Below w0.heap.size w0 w) (hg0 : w0.heap.size ≤ g) (hm : g < m ∧ m ≤ w.heap.size) (hb : Blk w g 60 (tcells A n c s)) (hR : BR .u8 5 w w0.heap.size (fun q => g < q ∧ q < m ∧ ¬ x q) A n c s.xs) (hok : s.Ok) :
    Calls Try.prog 19 #[.pointer (some ⟨g, 0, none⟩)] w fun e w' => e = .returned (.int .i64 s.steps) ∧ w = w' := by
  refine calls_flow Try.func19 rfl 9 rfl (Nat.le_of_ble_eq_true rfl) [(0, .pointer (some ⟨g, 0, none⟩))] ?_ ?_
  · intro t v h; exact args_look rfl t v h
  refine w_seq ?_
  refine w_region ?_
  refine rw_val (v := .int .i64 0) (w' := w) rfl rfl rfl rfl rfl ?_
  refine rw_end ?_
  refine w_seq ?_
  refine w_seq ?_
  refine w_region ?_
  refine rw_val (v := .pointer (some ⟨g, 0, none⟩)) (w' := w) rfl rfl rfl rfl rfl ?_
  refine rw_val (v := .bool false) (w' := w) rfl rfl rfl rfl (run_as (run_ptr_eql (e := 60) (by kernel_rfl) _ _)) ?_
  refine rw_end ?_
  refine w_cond_f rfl rfl rfl ?_
  refine w_skip ?_
  refine w_seq ?_
  refine w_region ?_
  refine rw_val (v := .pointer (some ⟨g, 0, none⟩)) (w' := w) rfl rfl rfl rfl rfl ?_
  refine rw_val (v := .pointer (some ⟨g, 0, none⟩)) (w' := w) rfl rfl rfl rfl (by simp [go_sem, sEv, sLook, nbeq, i64_w]) ?_
  refine rw_val (v := .pointer (some ⟨g, 2, none⟩)) (w' := w) rfl rfl rfl rfl (by simp [go_sem, sEv, sLook, nbeq, i64_w, Try.underlying60]) ?_
  refine rw_val (v := .int .i64 s.steps) (w' := w) rfl rfl rfl rfl (by have eb_ := hb; have e0_ := eb_.cellv (i := 2) (v := (.int .i64 s.steps : Value)) rfl; simp [go_sem, sEv, sLook, nbeq, i64_w, e0_]) ?_
  refine rw_val (v := .int .i64 s.steps) (w' := w) rfl rfl rfl rfl rfl ?_
  refine rw_end ?_
  refine w_weaken (G' := [(2, .int .i64 s.steps)]) ⟨rfl, trivial⟩ ?_
  refine w_ret (post_ret1 rfl rfl ?_)
  exact ⟨rfl, rfl⟩
theorem steps_T (w0 w : World) (g m : Nat) (x : Nat → Prop) (hx : ∀ q, x q → q < w.heap.size) (s : TS) (hT : TapeAt w0 w g m x s) (hok : s.Ok) : Calls Try.prog 19 #[.pointer (some ⟨g, 0, none⟩)] w fun e w' => e = .returned (.int .i64 s.steps) ∧ w = w' := by
  obtain ⟨hB, hg0, hm, A, n, c, hb, hR⟩ := hT
  exact steps_raw w0 w g m x hx s A n c hB hg0 hm hb hR hok
set_option maxHeartbeats 4000000 in
theorem down_raw (w0 w : World) (g m : Nat) (x : Nat → Prop) (hx : ∀ q, x q → q < w.heap.size) (s : TS) (A : Option Addr) (n c : Nat) (hB : Below w0.heap.size w0 w) (hg0 : w0.heap.size ≤ g) (hm : g < m ∧ m ≤ w.heap.size) (hb : Blk w g 60 (tcells A n c s)) (hR : BR .u8 5 w w0.heap.size (fun q => g < q ∧ q < m ∧ ¬ x q) A n c s.xs) (hok : s.Ok) :
    Calls Try.prog 23 #[.pointer (some ⟨g, 0, none⟩)] w fun e w' => e = .returned (.bool s.dn) ∧ w = w' := by
  refine calls_flow Try.func23 rfl 11 rfl (Nat.le_of_ble_eq_true rfl) [(0, .pointer (some ⟨g, 0, none⟩))] ?_ ?_
  · intro t v h; exact args_look rfl t v h
  refine w_seq ?_
  refine w_region ?_
  refine rw_val (v := .bool false) (w' := w) rfl rfl rfl rfl rfl ?_
  refine rw_end ?_
  refine w_seq ?_
  refine w_region ?_
  refine rw_val (v := .pointer (some ⟨g, 0, none⟩)) (w' := w) rfl rfl rfl rfl rfl ?_
  refine rw_val (v := .bool false) (w' := w) rfl rfl rfl rfl (run_as (run_ptr_eql (e := 60) (by kernel_rfl) _ _)) ?_
  refine rw_val (v := .bool false) (w' := w) rfl rfl rfl rfl rfl ?_
  refine rw_gval (c := false) (v := .pointer (some ⟨g, 0, none⟩)) (w' := w) rfl rfl rfl rfl rfl rfl rfl (by rfl) ?_
  refine rw_gval (c := false) (v := .pointer (some ⟨g, 0, none⟩)) (w' := w) rfl rfl rfl rfl rfl rfl rfl (by simp [go_sem, sEv, sLook, nbeq, i64_w]) ?_
  refine rw_gval (c := false) (v := .pointer (some ⟨g, 7, none⟩)) (w' := w) rfl rfl rfl rfl rfl rfl rfl (by simp [go_sem, sEv, sLook, nbeq, i64_w, Try.underlying60]) ?_
  refine rw_gval (c := false) (v := .bool s.dn) (w' := w) rfl rfl rfl rfl rfl rfl rfl (by have eb_ := hb; have e0_ := eb_.cellv (i := 7) (v := (.bool s.dn : Value)) rfl; simp [go_sem, sEv, sLook, nbeq, i64_w, e0_]) ?_
  refine rw_val (v := .bool s.dn) (w' := w) rfl rfl rfl rfl (by simp [go_sem, sEv, sLook, nbeq, i64_w]) ?_
  refine rw_val (v := .bool s.dn) (w' := w) rfl rfl rfl rfl rfl ?_
  refine rw_end ?_
  refine w_weaken (G' := [(2, .bool s.dn)]) ⟨rfl, trivial⟩ ?_
  refine w_ret (post_ret1 rfl rfl ?_)
  exact ⟨rfl, rfl⟩
theorem down_T (w0 w : World) (g m : Nat) (x : Nat → Prop) (hx : ∀ q, x q → q < w.heap.size) (s : TS) (hT : TapeAt w0 w g m x s) (hok : s.Ok) : Calls Try.prog 23 #[.pointer (some ⟨g, 0, none⟩)] w fun e w' => e = .returned (.bool s.dn) ∧ w = w' := by
  obtain ⟨hB, hg0, hm, A, n, c, hb, hR⟩ := hT
  exact down_raw w0 w g m x hx s A n c hB hg0 hm hb hR hok
set_option maxHeartbeats 4000000 in
theorem length_raw (w0 w : World) (g m : Nat) (x : Nat → Prop) (hx : ∀ q, x q → q < w.heap.size) (s : TS) (A : Option Addr) (n c : Nat) (hB : Below w0.heap.size w0 w) (hg0 : w0.heap.size ≤ g) (hm : g < m ∧ m ≤ w.heap.size) (hb : Blk w g 60 (tcells A n c s)) (hR : BR .u8 5 w w0.heap.size (fun q => g < q ∧ q < m ∧ ¬ x q) A n c s.xs) (hok : s.Ok) :
    Calls Try.prog 28 #[.pointer (some ⟨g, 0, none⟩)] w fun e w' => e = .returned (.int .i64 (s.xs.length : Int)) ∧ w = w' := by
  refine calls_flow Try.func28 rfl 10 rfl (Nat.le_of_ble_eq_true rfl) [(0, .pointer (some ⟨g, 0, none⟩))] ?_ ?_
  · intro t v h; exact args_look rfl t v h
  refine w_seq ?_
  refine w_region ?_
  refine rw_val (v := .int .i64 0) (w' := w) rfl rfl rfl rfl rfl ?_
  refine rw_end ?_
  refine w_seq ?_
  refine w_seq ?_
  refine w_region ?_
  refine rw_val (v := .pointer (some ⟨g, 0, none⟩)) (w' := w) rfl rfl rfl rfl rfl ?_
  refine rw_val (v := .bool false) (w' := w) rfl rfl rfl rfl (run_as (run_ptr_eql (e := 60) (by kernel_rfl) _ _)) ?_
  refine rw_end ?_
  refine w_cond_f rfl rfl rfl ?_
  refine w_skip ?_
  refine w_seq ?_
  refine w_region ?_
  refine rw_val (v := .pointer (some ⟨g, 0, none⟩)) (w' := w) rfl rfl rfl rfl rfl ?_
  refine rw_val (v := .pointer (some ⟨g, 0, none⟩)) (w' := w) rfl rfl rfl rfl (by simp [go_sem, sEv, sLook, nbeq, i64_w]) ?_
  refine rw_val (v := .pointer (some ⟨g, 0, none⟩)) (w' := w) rfl rfl rfl rfl (by simp [go_sem, sEv, sLook, nbeq, i64_w, Try.underlying60]) ?_
  refine rw_val (v := .slice A n c) (w' := w) rfl rfl rfl rfl (by have eb_ := hb; have e0_ := eb_.cellv (i := 0) (v := (.slice A n c : Value)) rfl; simp [go_sem, sEv, sLook, nbeq, i64_w, e0_, Try.underlying27]) ?_
  refine rw_val (v := .int .i64 (s.xs.length : Int)) (w' := w) rfl rfl rfl rfl (by simp [go_sem, sEv, sLook, nbeq, i64_w]; rw [(BR.reads' hR).1]) ?_
  refine rw_val (v := .int .i64 (s.xs.length : Int)) (w' := w) rfl rfl rfl rfl rfl ?_
  refine rw_end ?_
  refine w_weaken (G' := [(2, .int .i64 (s.xs.length : Int))]) ⟨rfl, trivial⟩ ?_
  refine w_ret (post_ret1 rfl rfl ?_)
  exact ⟨rfl, rfl⟩
theorem length_T (w0 w : World) (g m : Nat) (x : Nat → Prop) (hx : ∀ q, x q → q < w.heap.size) (s : TS) (hT : TapeAt w0 w g m x s) (hok : s.Ok) : Calls Try.prog 28 #[.pointer (some ⟨g, 0, none⟩)] w fun e w' => e = .returned (.int .i64 (s.xs.length : Int)) ∧ w = w' := by
  obtain ⟨hB, hg0, hm, A, n, c, hb, hR⟩ := hT
  exact length_raw w0 w g m x hx s A n c hB hg0 hm hb hR hok
set_option maxHeartbeats 4000000 in
theorem arm_raw (w0 w : World) (g m : Nat) (x : Nat → Prop) (hx : ∀ q, x q → q < w.heap.size) (s : TS) (A : Option Addr) (n c : Nat) (hB : Below w0.heap.size w0 w) (hg0 : w0.heap.size ≤ g) (hm : g < m ∧ m ≤ w.heap.size) (hb : Blk w g 60 (tcells A n c s)) (hR : BR .u8 5 w w0.heap.size (fun q => g < q ∧ q < m ∧ ¬ x q) A n c s.xs) (hok : s.Ok) (k : Int) (cK : decide (k < 0) = false) :
    Calls Try.prog 20 #[.pointer (some ⟨g, 0, none⟩), .int .i64 k] w fun e w' => e = .returned .nilIface ∧ TapeAt w0 w' g w'.heap.size x ({ s with ps := true, pl := k }) ∧ w.heap.size ≤ w'.heap.size ∧ (∀ q, x q → q ≠ g → w'.heap[q]? = w.heap[q]?) := by
  refine calls_flow Try.func20 rfl 17 rfl (Nat.le_of_ble_eq_true rfl) [(0, .pointer (some ⟨g, 0, none⟩)), (1, .int .i64 k)] ?_ ?_
  · intro t v h; exact args_look rfl t v h
  refine w_seq ?_
  refine w_region ?_
  refine rw_val (v := .nilIface) (w' := w) rfl rfl rfl rfl rfl ?_
  refine rw_end ?_
  refine w_seq ?_
  refine w_seq ?_
  refine w_region ?_
  refine rw_val (v := .pointer (some ⟨g, 0, none⟩)) (w' := w) rfl rfl rfl rfl rfl ?_
  refine rw_val (v := .bool false) (w' := w) rfl rfl rfl rfl (run_as (run_ptr_eql (e := 60) (by kernel_rfl) _ _)) ?_
  refine rw_val (v := .bool false) (w' := w) rfl rfl rfl rfl rfl ?_
  refine rw_gval (c := false) (v := .int .i64 k) (w' := w) rfl rfl rfl rfl rfl rfl rfl (by rfl) ?_
  refine rw_gval (c := false) (v := .bool (decide (k < 0))) (w' := w) rfl rfl rfl rfl rfl rfl rfl (by simp [go_sem, sEv, sLook, nbeq, i64_w]) ?_
  refine rw_val (v := .bool (decide (k < 0))) (w' := w) rfl rfl rfl rfl (by simp [go_sem, sEv, sLook, nbeq, i64_w]) ?_
  refine rw_end ?_
  refine w_weaken (G' := [(0, .pointer (some ⟨g, 0, none⟩)), (1, .int .i64 k), (4, .nilIface), (10, .bool (decide (k < 0)))]) ⟨rfl, rfl, rfl, rfl, trivial⟩ ?_
  refine w_cond_f rfl rfl cK ?_
  refine w_skip ?_
  refine w_seq ?_
  refine w_region ?_
  refine rw_val (v := .pointer (some ⟨g, 0, none⟩)) (w' := w) rfl rfl rfl rfl rfl ?_
  refine rw_val (v := .int .i64 k) (w' := w) rfl rfl rfl rfl rfl ?_
  refine rw_val (v := .agg #[.bool true, .int .i64 k]) (w' := w) rfl rfl rfl rfl (by kernel_rfl) ?_
  refine rw_val (v := .pointer (some ⟨g, 0, none⟩)) (w' := w) rfl rfl rfl rfl (by simp [go_sem, sEv, sLook, nbeq, i64_w]) ?_
  refine rw_val (v := .pointer (some ⟨g, 3, none⟩)) (w' := w) rfl rfl rfl rfl (by simp [go_sem, sEv, sLook, nbeq, i64_w, Try.underlying60]) ?_
  have hb4 := hb
  refine rw_store (g := g) (i := 3) (l := [.bool true, .int .i64 k]) (cs' := #[.slice A n c, .int .i64 s.sure, .int .i64 s.steps, .bool true, .int .i64 k, .bool s.fs, .int .i64 s.fl, .bool s.dn]) rfl rfl rfl hb4 rfl (by have e0_ := hb4.cellv (i := 3) (v := (.bool s.ps : Value)) rfl; have f0_ := hb4.frozen 3; have e1_ := hb4.cellv (i := 4) (v := (.int .i64 s.pl : Value)) rfl; have f1_ := hb4.frozen 4; simp [go_sem, sEv, sLook, nbeq, i64_w, putCells, e0_, f0_, e1_, f1_, Try.underlying58]) ?_
  intro w1 hk2 hk3
  have hs_w1 := hk2.size
  refine rw_end ?_
  refine w_weaken (G' := [(4, .nilIface)]) ⟨rfl, trivial⟩ ?_
  refine w_seq ?_
  refine w_region ?_
  refine rw_val (v := .nilIface) (w' := w1) rfl rfl rfl rfl rfl ?_
  refine rw_end ?_
  refine w_ret (post_ret1 rfl rfl ?_)
  have e2_ : { s with ps := true, pl := k } = ⟨s.xs, s.sure, s.steps, true, k, s.fs, s.fl, s.dn⟩ := rfl
  rw [e2_]
  refine ⟨rfl, TapeAt.mk (s := ⟨s.xs, s.sure, s.steps, true, k, s.fs, s.fl, s.dn⟩) (hk2.below (by omega) hB) hg0 hk3 (BR.step hR (fun q hq _ => hk2.block q (by have := hq.1; omega))) (fun q hq => ⟨hq.1, hq.2.2⟩), by omega, (fun q hxq hxg => (hk2.block q hxg))⟩
theorem arm_T (w0 w : World) (g m : Nat) (x : Nat → Prop) (hx : ∀ q, x q → q < w.heap.size) (s : TS) (hT : TapeAt w0 w g m x s) (hok : s.Ok) (k : Int) (cK : decide (k < 0) = false) : Calls Try.prog 20 #[.pointer (some ⟨g, 0, none⟩), .int .i64 k] w fun e w' => e = .returned .nilIface ∧ TapeAt w0 w' g w'.heap.size x ({ s with ps := true, pl := k }) ∧ w.heap.size ≤ w'.heap.size ∧ (∀ q, x q → q ≠ g → w'.heap[q]? = w.heap[q]?) := by
  obtain ⟨hB, hg0, hm, A, n, c, hb, hR⟩ := hT
  exact arm_raw w0 w g m x hx s A n c hB hg0 hm hb hR hok k cK
set_option maxHeartbeats 4000000 in
theorem fail_raw (w0 w : World) (g m : Nat) (x : Nat → Prop) (hx : ∀ q, x q → q < w.heap.size) (s : TS) (A : Option Addr) (n c : Nat) (hB : Below w0.heap.size w0 w) (hg0 : w0.heap.size ≤ g) (hm : g < m ∧ m ≤ w.heap.size) (hb : Blk w g 60 (tcells A n c s)) (hR : BR .u8 5 w w0.heap.size (fun q => g < q ∧ q < m ∧ ¬ x q) A n c s.xs) (hok : s.Ok) (k : Int) (cK : decide (k < 0) = false) :
    Calls Try.prog 21 #[.pointer (some ⟨g, 0, none⟩), .int .i64 k] w fun e w' => e = .returned .nilIface ∧ TapeAt w0 w' g w'.heap.size x ({ s with fs := true, fl := k }) ∧ w.heap.size ≤ w'.heap.size ∧ (∀ q, x q → q ≠ g → w'.heap[q]? = w.heap[q]?) := by
  refine calls_flow Try.func21 rfl 17 rfl (Nat.le_of_ble_eq_true rfl) [(0, .pointer (some ⟨g, 0, none⟩)), (1, .int .i64 k)] ?_ ?_
  · intro t v h; exact args_look rfl t v h
  refine w_seq ?_
  refine w_region ?_
  refine rw_val (v := .nilIface) (w' := w) rfl rfl rfl rfl rfl ?_
  refine rw_end ?_
  refine w_seq ?_
  refine w_seq ?_
  refine w_region ?_
  refine rw_val (v := .pointer (some ⟨g, 0, none⟩)) (w' := w) rfl rfl rfl rfl rfl ?_
  refine rw_val (v := .bool false) (w' := w) rfl rfl rfl rfl (run_as (run_ptr_eql (e := 60) (by kernel_rfl) _ _)) ?_
  refine rw_val (v := .bool false) (w' := w) rfl rfl rfl rfl rfl ?_
  refine rw_gval (c := false) (v := .int .i64 k) (w' := w) rfl rfl rfl rfl rfl rfl rfl (by rfl) ?_
  refine rw_gval (c := false) (v := .bool (decide (k < 0))) (w' := w) rfl rfl rfl rfl rfl rfl rfl (by simp [go_sem, sEv, sLook, nbeq, i64_w]) ?_
  refine rw_val (v := .bool (decide (k < 0))) (w' := w) rfl rfl rfl rfl (by simp [go_sem, sEv, sLook, nbeq, i64_w]) ?_
  refine rw_end ?_
  refine w_weaken (G' := [(0, .pointer (some ⟨g, 0, none⟩)), (1, .int .i64 k), (4, .nilIface), (10, .bool (decide (k < 0)))]) ⟨rfl, rfl, rfl, rfl, trivial⟩ ?_
  refine w_cond_f rfl rfl cK ?_
  refine w_skip ?_
  refine w_seq ?_
  refine w_region ?_
  refine rw_val (v := .pointer (some ⟨g, 0, none⟩)) (w' := w) rfl rfl rfl rfl rfl ?_
  refine rw_val (v := .int .i64 k) (w' := w) rfl rfl rfl rfl rfl ?_
  refine rw_val (v := .agg #[.bool true, .int .i64 k]) (w' := w) rfl rfl rfl rfl (by kernel_rfl) ?_
  refine rw_val (v := .pointer (some ⟨g, 0, none⟩)) (w' := w) rfl rfl rfl rfl (by simp [go_sem, sEv, sLook, nbeq, i64_w]) ?_
  refine rw_val (v := .pointer (some ⟨g, 5, none⟩)) (w' := w) rfl rfl rfl rfl (by simp [go_sem, sEv, sLook, nbeq, i64_w, Try.underlying60]) ?_
  have hb4 := hb
  refine rw_store (g := g) (i := 5) (l := [.bool true, .int .i64 k]) (cs' := #[.slice A n c, .int .i64 s.sure, .int .i64 s.steps, .bool s.ps, .int .i64 s.pl, .bool true, .int .i64 k, .bool s.dn]) rfl rfl rfl hb4 rfl (by have e0_ := hb4.cellv (i := 5) (v := (.bool s.fs : Value)) rfl; have f0_ := hb4.frozen 5; have e1_ := hb4.cellv (i := 6) (v := (.int .i64 s.fl : Value)) rfl; have f1_ := hb4.frozen 6; simp [go_sem, sEv, sLook, nbeq, i64_w, putCells, e0_, f0_, e1_, f1_, Try.underlying58]) ?_
  intro w1 hk2 hk3
  have hs_w1 := hk2.size
  refine rw_end ?_
  refine w_weaken (G' := [(4, .nilIface)]) ⟨rfl, trivial⟩ ?_
  refine w_seq ?_
  refine w_region ?_
  refine rw_val (v := .nilIface) (w' := w1) rfl rfl rfl rfl rfl ?_
  refine rw_end ?_
  refine w_ret (post_ret1 rfl rfl ?_)
  have e2_ : { s with fs := true, fl := k } = ⟨s.xs, s.sure, s.steps, s.ps, s.pl, true, k, s.dn⟩ := rfl
  rw [e2_]
  refine ⟨rfl, TapeAt.mk (s := ⟨s.xs, s.sure, s.steps, s.ps, s.pl, true, k, s.dn⟩) (hk2.below (by omega) hB) hg0 hk3 (BR.step hR (fun q hq _ => hk2.block q (by have := hq.1; omega))) (fun q hq => ⟨hq.1, hq.2.2⟩), by omega, (fun q hxq hxg => (hk2.block q hxg))⟩
theorem fail_T (w0 w : World) (g m : Nat) (x : Nat → Prop) (hx : ∀ q, x q → q < w.heap.size) (s : TS) (hT : TapeAt w0 w g m x s) (hok : s.Ok) (k : Int) (cK : decide (k < 0) = false) : Calls Try.prog 21 #[.pointer (some ⟨g, 0, none⟩), .int .i64 k] w fun e w' => e = .returned .nilIface ∧ TapeAt w0 w' g w'.heap.size x ({ s with fs := true, fl := k }) ∧ w.heap.size ≤ w'.heap.size ∧ (∀ q, x q → q ≠ g → w'.heap[q]? = w.heap[q]?) := by
  obtain ⟨hB, hg0, hm, A, n, c, hb, hR⟩ := hT
  exact fail_raw w0 w g m x hx s A n c hB hg0 hm hb hR hok k cK

def TS.sync (s : TS) : TS := if s.err.isSome then s.next else { s.next with sure := (s.xs.length : Int) }
set_option maxHeartbeats 4000000 in
theorem sync_raw (w0 w : World) (g m : Nat) (x : Nat → Prop) (hx : ∀ q, x q → q < w.heap.size) (s : TS) (A : Option Addr) (n c : Nat) (hB : Below w0.heap.size w0 w) (hg0 : w0.heap.size ≤ g) (hm : g < m ∧ m ≤ w.heap.size) (hb : Blk w g 60 (tcells A n c s)) (hR : BR .u8 5 w w0.heap.size (fun q => g < q ∧ q < m ∧ ¬ x q) A n c s.xs) (hok : s.Ok)  :
    Calls Try.prog 13 #[.pointer (some ⟨g, 0, none⟩)] w fun e w' => e = .returned (errT s.err) ∧ TapeAt w0 w' g w'.heap.size x s.sync ∧ w.heap.size ≤ w'.heap.size ∧ (∀ q, x q → q ≠ g → w'.heap[q]? = w.heap[q]?) := by
  refine calls_flow Try.func13 rfl 17 rfl (Nat.le_of_ble_eq_true rfl) [(0, .pointer (some ⟨g, 0, none⟩))] ?_ ?_
  · intro t v h; exact args_look rfl t v h
  refine w_seq ?_
  refine w_region ?_
  refine rw_val (v := .nilIface) (w' := w) rfl rfl rfl rfl rfl ?_
  refine rw_end ?_
  refine w_seq ?_
  refine w_seq ?_
  refine w_region ?_
  refine rw_val (v := .pointer (some ⟨g, 0, none⟩)) (w' := w) rfl rfl rfl rfl rfl ?_
  refine rw_call rfl rfl rfl rfl (f := 29) (args := #[.pointer (some ⟨g, 0, none⟩)]) (by simp [go_sem, sEv, sLook, nbeq, i64_w]) (step_raw w0 w g m x (fun q h_ => by have := hx q h_; omega) s A n c hB hg0 ⟨by omega, by omega⟩ hb hR hok) ?_
  rintro e_ w1 ⟨rfl, hT2, hs3, _, hkp4⟩
  refine ⟨_, rfl, ?_⟩
  obtain ⟨hB5, hg6, hm7, A8, n9, c10, hb11, hR12⟩ := hT2
  refine rw_val (v := errT s.err) (w' := w1) rfl rfl rfl rfl rfl ?_
  refine rw_end ?_
  refine w_seq ?_
  refine w_region ?_
  refine rw_val (v := errT s.err) (w' := w1) rfl rfl rfl rfl rfl ?_
  refine rw_val (v := .bool s.err.isSome) (w' := w1) rfl rfl rfl rfl (run_as (guard_err_neq _ _ _)) ?_
  refine rw_end ?_
  refine w_cond rfl rfl (fun cE => ?_) (fun cE => ?_)
  · refine w_seq ?_
    refine w_region ?_
    refine rw_val (v := errT s.err) (w' := w1) rfl rfl rfl rfl rfl ?_
    refine rw_val (v := errT s.err) (w' := w1) rfl rfl rfl rfl rfl ?_
    refine rw_end ?_
    refine w_ret (post_ret1 rfl rfl ?_)
    rw [TS.sync, if_pos cE]
    have e2_ : s.next = ⟨s.next.xs, s.next.sure, s.next.steps, s.next.ps, s.next.pl, s.next.fs, s.next.fl, s.next.dn⟩ := rfl
    rw [e2_]
    refine ⟨rfl, TapeAt.mk (s := ⟨s.next.xs, s.next.sure, s.next.steps, s.next.ps, s.next.pl, s.next.fs, s.next.fl, s.next.dn⟩) hB5 hg0 hb11 hR12 (fun q hq => ⟨hq.1, hq.2.2⟩), by omega, (fun q hxq hxg => (hkp4.block q hxg))⟩
  · refine w_skip ?_
    refine w_seq ?_
    refine w_region ?_
    refine rw_val (v := .pointer (some ⟨g, 0, none⟩)) (w' := w1) rfl rfl rfl rfl rfl ?_
    refine rw_val (v := .pointer (some ⟨g, 0, none⟩)) (w' := w1) rfl rfl rfl rfl rfl ?_
    refine rw_val (v := .pointer (some ⟨g, 0, none⟩)) (w' := w1) rfl rfl rfl rfl (by simp [go_sem, sEv, sLook, nbeq, i64_w]) ?_
    refine rw_val (v := .pointer (some ⟨g, 0, none⟩)) (w' := w1) rfl rfl rfl rfl (by simp [go_sem, sEv, sLook, nbeq, i64_w, Try.underlying60]) ?_
    refine rw_val (v := .slice A8 n9 c10) (w' := w1) rfl rfl rfl rfl (by have eb_ := hb11; have e0_ := eb_.cellv (i := 0) (v := (.slice A8 n9 c10 : Value)) rfl; simp [go_sem, sEv, sLook, nbeq, i64_w, e0_, Try.underlying27]) ?_
    refine rw_val (v := .int .i64 (s.xs.length : Int)) (w' := w1) rfl rfl rfl rfl (by simp [go_sem, sEv, sLook, nbeq, i64_w]; rw [(BR.reads' hR12).1, TS.next_xs]) ?_
    refine rw_val (v := .pointer (some ⟨g, 0, none⟩)) (w' := w1) rfl rfl rfl rfl (by simp [go_sem, sEv, sLook, nbeq, i64_w]) ?_
    refine rw_val (v := .pointer (some ⟨g, 1, none⟩)) (w' := w1) rfl rfl rfl rfl (by simp [go_sem, sEv, sLook, nbeq, i64_w, Try.underlying60]) ?_
    have hb16 := hb11
    refine rw_store (g := g) (i := 1) (l := [.int .i64 (s.xs.length : Int)]) (cs' := #[.slice A8 n9 c10, .int .i64 (s.xs.length : Int), .int .i64 s.next.steps, .bool s.next.ps, .int .i64 s.next.pl, .bool s.next.fs, .int .i64 s.next.fl, .bool s.next.dn]) rfl rfl rfl hb16 rfl (by have e0_ := hb16.cellv (i := 1) (v := (.int .i64 s.next.sure : Value)) rfl; have f0_ := hb16.frozen 1; simp [go_sem, sEv, sLook, nbeq, i64_w, putCells, e0_, f0_]) ?_
    intro w13 hk14 hk15
    have hs_w13 := hk14.size
    refine rw_end ?_
    refine w_weaken (G' := [(2, .nilIface)]) ⟨rfl, trivial⟩ ?_
    refine w_seq ?_
    refine w_region ?_
    refine rw_val (v := .nilIface) (w' := w13) rfl rfl rfl rfl rfl ?_
    refine rw_end ?_
    refine w_ret (post_ret1 rfl rfl ?_)
    have e1_ : s.err = none := by simpa using cE
    rw [e1_, TS.sync, if_neg (by simp [e1_])]
    have e2_ : { s.next with sure := (s.xs.length : Int) } = ⟨s.next.xs, (s.xs.length : Int), s.next.steps, s.next.ps, s.next.pl, s.next.fs, s.next.fl, s.next.dn⟩ := rfl
    rw [e2_]
    refine ⟨rfl, TapeAt.mk (s := ⟨s.next.xs, (s.xs.length : Int), s.next.steps, s.next.ps, s.next.pl, s.next.fs, s.next.fl, s.next.dn⟩) (hk14.below (by omega) hB5) hg0 hk15 (BR.step hR12 (fun q hq _ => hk14.block q (by have := hq.1; omega))) (fun q hq => ⟨hq.1, hq.2.2⟩), by omega, (fun q hxq hxg => ((hk14.block q hxg).trans (hkp4.block q hxg)))⟩
theorem sync_T (w0 w : World) (g m : Nat) (x : Nat → Prop) (hx : ∀ q, x q → q < w.heap.size) (s : TS) (hT : TapeAt w0 w g m x s) (hok : s.Ok)  : Calls Try.prog 13 #[.pointer (some ⟨g, 0, none⟩)] w fun e w' => e = .returned (errT s.err) ∧ TapeAt w0 w' g w'.heap.size x s.sync ∧ w.heap.size ≤ w'.heap.size ∧ (∀ q, x q → q ≠ g → w'.heap[q]? = w.heap[q]?) := by
  obtain ⟨hB, hg0, hm, A, n, c, hb, hR⟩ := hT
  exact sync_raw w0 w g m x hx s A n c hB hg0 hm hb hR hok
set_option maxHeartbeats 4000000 in
theorem read_raw (w0 w : World) (g m : Nat) (x : Nat → Prop) (hx : ∀ q, x q → q < w.heap.size) (s : TS) (A : Option Addr) (n c : Nat) (hB : Below w0.heap.size w0 w) (hg0 : w0.heap.size ≤ g) (hm : g < m ∧ m ≤ w.heap.size) (hb : Blk w g 60 (tcells A n c s)) (hR : BR .u8 5 w w0.heap.size (fun q => g < q ∧ q < m ∧ ¬ x q) A n c s.xs) (hok : s.Ok) :
    Calls Try.prog 15 #[.pointer (some ⟨g, 0, none⟩)] w fun e w' => ∃ A' n' c', e = .returned (.slice A' n' c') ∧ Own .u8 5 w' w.heap.size w.heap.size A' n' c' s.xs ∧ Below w.heap.size w w' := by
  refine calls_flow Try.func15 rfl 10 rfl (Nat.le_of_ble_eq_true rfl) [(0, .pointer (some ⟨g, 0, none⟩))] ?_ ?_
  · intro t v h; exact args_look rfl t v h
  refine w_seq ?_
  refine w_region ?_
  refine rw_val (v := .slice none 0 0) (w' := w) rfl rfl rfl rfl rfl ?_
  refine rw_end ?_
  refine w_seq ?_
  refine w_seq ?_
  refine w_region ?_
  refine rw_val (v := .pointer (some ⟨g, 0, none⟩)) (w' := w) rfl rfl rfl rfl rfl ?_
  refine rw_val (v := .bool false) (w' := w) rfl rfl rfl rfl (run_as (run_ptr_eql (e := 60) (by kernel_rfl) _ _)) ?_
  refine rw_end ?_
  refine w_cond_f rfl rfl rfl ?_
  refine w_skip ?_
  refine w_seq ?_
  refine w_region ?_
  refine rw_val (v := .pointer (some ⟨g, 0, none⟩)) (w' := w) rfl rfl rfl rfl rfl ?_
  refine rw_val (v := .pointer (some ⟨g, 0, none⟩)) (w' := w) rfl rfl rfl rfl (by simp [go_sem, sEv, sLook, nbeq, i64_w]) ?_
  refine rw_val (v := .pointer (some ⟨g, 0, none⟩)) (w' := w) rfl rfl rfl rfl (by simp [go_sem, sEv, sLook, nbeq, i64_w, Try.underlying60]) ?_
  refine rw_val (v := .slice A n c) (w' := w) rfl rfl rfl rfl (by have e0_ := hb.cellv (i := 0) (v := .slice A n c) rfl; simp [go_sem, sEv, sLook, nbeq, i64_w, e0_]) ?_
  refine rw_call rfl rfl rfl rfl (f := 30) (args := #[.slice A n c]) (by simp [go_sem, sEv, sLook, nbeq, i64_w]) (clone_calls w A n c s.xs (show (Kd.int .u8).C w A n s.xs by rw [(BR.reads' hR).1]; exact (BR.reads' hR).2.2) (by have := hok.len; have := (BR.reads' hR).1; omega)) ?_
  rintro e_ w4 ⟨A1, n2, c3, rfl, hO5, hB6⟩
  refine ⟨_, rfl, ?_⟩
  have hs_w4 := hB6.size
  refine rw_val (v := .slice A1 n2 c3) (w' := w4) rfl rfl rfl rfl rfl ?_
  refine rw_end ?_
  refine w_weaken (G' := [(2, .slice A1 n2 c3)]) ⟨rfl, trivial⟩ ?_
  refine w_ret (post_ret1 rfl rfl ?_)
  exact ⟨_, _, _, rfl, hO5, hB6⟩
theorem read_T (w0 w : World) (g m : Nat) (x : Nat → Prop) (hx : ∀ q, x q → q < w.heap.size) (s : TS) (hT : TapeAt w0 w g m x s) (hok : s.Ok) : Calls Try.prog 15 #[.pointer (some ⟨g, 0, none⟩)] w fun e w' => ∃ A' n' c', e = .returned (.slice A' n' c') ∧ Own .u8 5 w' w.heap.size w.heap.size A' n' c' s.xs ∧ Below w.heap.size w w' := by
  obtain ⟨hB, hg0, hm, A, n, c, hb, hR⟩ := hT
  exact read_raw w0 w g m x hx s A n c hB hg0 hm hb hR hok
set_option maxHeartbeats 4000000 in
theorem new_T  (w : World) :
    Calls Try.prog 11 #[] w fun e w' => ∃ g, e = .returned (.pointer (some ⟨g, 0, none⟩)) ∧ TapeAt w w' g w'.heap.size (fun _ => False) TS.start ∧ w.heap.size ≤ w'.heap.size := by
  refine calls_flow Try.func11 rfl 3 rfl (Nat.le_of_ble_eq_true rfl) [] ?_ ?_
  · intro t v h; exact args_look rfl t v h
  refine w_seq ?_
  refine w_region ?_
  refine rw_val (v := .pointer none) (w' := w) rfl rfl rfl rfl rfl ?_
  refine rw_end ?_
  refine w_seq ?_
  refine w_region ?_
  refine rw_val (v := .agg #[.slice none 0 0, .int .i64 0, .int .i64 0, .bool false, .int .i64 0, .bool false, .int .i64 0, .bool false]) (w' := w) rfl rfl rfl rfl (by kernel_rfl) ?_
  refine rw_new (cs := #[.slice none 0 0, .int .i64 0, .int .i64 0, .bool false, .int .i64 0, .bool false, .int .i64 0, .bool false]) (t := 60) (fun g => .pointer (some ⟨g, 0, none⟩)) rfl rfl rfl rfl (by simp [go_sem, sEv, sLook, nbeq, i64_w]) ?_
  intro g1 w2 hg6 hz5 hb3 hk4
  have hs_w2 := hb3.size
  refine rw_val (v := .pointer (some ⟨g1, 0, none⟩)) (w' := w2) rfl rfl rfl rfl rfl ?_
  refine rw_end ?_
  refine w_ret (post_ret1 rfl rfl ?_)
  exact ⟨g1, rfl, TapeAt.mk (s := TS.start) (ok := fun q => False) hb3 (by omega) hk4 (BR.nil _ _ _ _ _) (fun q hq => hq.elim), by omega⟩
end Go.Proofs.Ytpbpeklbmmbigaa.Tp
