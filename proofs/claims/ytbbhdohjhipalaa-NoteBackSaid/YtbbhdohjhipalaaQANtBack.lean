/- A law's own walk: NtBack. -/
import Derived.Test.YtbbhdohjhipalaaQA6
section
namespace Go.Proofs.Ytbbhdohjhipalaa.Ce
open Go.RowKit Go.Proofs.YtbbhdohjhipalaaW.PrintWords Go.Proofs.YtbbhdohjhipalaaW.PrintLast Go.Proofs.YtbbhdohjhipalaaW.PrintMore
open Go.Proofs.Ytbbhdohjhipalaa.Flow
open Go.Proofs.Ytbbhdohjhipalaa.PNoteReads
set_option linter.unusedVariables false
set_option linter.unusedSimpArgs false
set_option maxHeartbeats 4000000 in
theorem back_calls (w : World) (n : NT) (A3 : Option Addr) (c3 : Nat) (A4 : Option Addr) (c4 : Nat) (A5 : Option Addr) (c5 : Nat) (hn3 : (Kd.int .i64).C w A3 n.nums.length n.nums) (hc3 : n.nums.length ≤ c3) (hn4 : kOp.C w A4 n.ops.length n.ops) (hc4 : n.ops.length ≤ c4) (hn5 : kEntry.C w A5 n.ents.length n.ents) (hc5 : n.ents.length ≤ c5) (hk3 : n.nums.length ≤ 140737488355328) (hk4 : n.ops.length ≤ 140737488355328) (hk5 : n.ents.length ≤ 140737488355328) (A1 : Option Addr) (c1 : Nat) (b : List Int) (hb1 : (Kd.int .u8).C w A1 b.length b) (hcb : b.length ≤ c1) (hlb : b.length ≤ 140737488355328) (hbb : Bytes b) (hNI : NoteI n) :
    Calls Try.prog 6 #[.agg #[.int .i64 n.kind, .int .i64 n.fr, .int .i64 n.tw, .slice A3 n.nums.length c3, .slice A4 n.ops.length c4, .slice A5 n.ents.length c5], .slice A1 b.length c1] w fun e w' => e = .returned (.bool true) ∧ Below w.heap.size w w' := by
  refine calls_flow Try.func6 rfl 90 rfl (Nat.le_of_ble_eq_true rfl) [(0, .agg #[.int .i64 n.kind, .int .i64 n.fr, .int .i64 n.tw, .slice A3 n.nums.length c3, .slice A4 n.ops.length c4, .slice A5 n.ents.length c5]), (1, .slice A1 b.length c1)] ?_ ?_
  · intro t v h; exact args_look rfl t v h
  refine w_seq ?_
  refine w_region ?_
  refine rw_new (cs := #[.int .i64 n.kind, .int .i64 n.fr, .int .i64 n.tw, .slice A3 n.nums.length c3, .slice A4 n.ops.length c4, .slice A5 n.ents.length c5]) (t := 26) (fun g => .pointer (some ⟨g, 0, none⟩)) rfl rfl rfl rfl (by simp [go_sem, sEv, sLook, nbeq, i64_w, -List.getD_eq_getElem?_getD]) ?_
  intro g1 w2 hg6 hz5 hb3 hk4
  have hs_w2 := hb3.size
  refine rw_val (v := .bool false) (w' := w2) rfl rfl rfl rfl rfl ?_
  refine rw_end ?_
  refine w_seq ?_
  refine w_seq ?_
  refine w_region ?_
  refine rw_call rfl rfl rfl rfl (f := 9) (args := #[]) (by simp [go_sem, sEv, sLook, nbeq, i64_w, -List.getD_eq_getElem?_getD]) (alive_calls w2) ?_
  rintro e_ w7 ⟨rfl, hb8⟩
  refine ⟨_, rfl, ?_⟩
  have hs_w7 := hb8.size
  refine rw_val (v := .bool false) (w' := w7) rfl rfl rfl rfl (by simp [go_sem, sEv, sLook, nbeq, i64_w, -List.getD_eq_getElem?_getD]) ?_
  refine rw_end ?_
  refine w_cond_f rfl rfl rfl ?_
  refine w_skip ?_
  refine w_seq ?_
  refine w_seq ?_
  refine w_region ?_
  refine rw_val (v := .agg #[.int .i64 n.kind, .int .i64 n.fr, .int .i64 n.tw, .slice A3 n.nums.length c3, .slice A4 n.ops.length c4, .slice A5 n.ents.length c5]) (w' := w7) rfl rfl rfl rfl (by have eb_ := (hk4.on hb8); have e0_ := eb_.cellv (i := 0) (v := (.int .i64 n.kind : Value)) rfl; have e1_ := eb_.cellv (i := 1) (v := (.int .i64 n.fr : Value)) rfl; have e2_ := eb_.cellv (i := 2) (v := (.int .i64 n.tw : Value)) rfl; have e3_ := eb_.cellv (i := 3) (v := (.slice A3 n.nums.length c3 : Value)) rfl; have e4_ := eb_.cellv (i := 4) (v := (.slice A4 n.ops.length c4 : Value)) rfl; have e5_ := eb_.cellv (i := 5) (v := (.slice A5 n.ents.length c5 : Value)) rfl; simp [go_sem, sEv, sLook, nbeq, i64_w, -List.getD_eq_getElem?_getD, e0_, e1_, e2_, e3_, e4_, e5_, Try.underlying26]) ?_
  refine rw_call rfl rfl rfl rfl (f := 10) (args := #[.agg #[.int .i64 n.kind, .int .i64 n.fr, .int .i64 n.tw, .slice A3 n.nums.length c3, .slice A4 n.ops.length c4, .slice A5 n.ents.length c5]]) (by simp [go_sem, sEv, sLook, nbeq, i64_w, -List.getD_eq_getElem?_getD]) (large_calls w7 n A3 c3 A4 c4 A5 c5 (Kd.C_below hn3 (chain hb3 hb8)) hc3 (Kd.C_below hn4 (chain hb3 hb8)) hc4 (Kd.C_below hn5 (chain hb3 hb8)) hc5 (by omega) (by omega) (by omega)) ?_
  rintro e_ w9 ⟨rfl, hb10⟩
  refine ⟨_, rfl, ?_⟩
  have hs_w9 := hb10.size
  refine rw_val (v := .bool (decide (500 < n.nums.length + n.ops.length + n.ents.length))) (w' := w9) rfl rfl rfl rfl rfl ?_
  rcases bcase (decide (500 < n.nums.length + n.ops.length + n.ents.length)) with cG | cG
  · have l11 : ¬ (500 < n.nums.length + n.ops.length + n.ents.length) := of_decide_eq_false cG
    refine rw_on (c := decide (500 < n.nums.length + n.ops.length + n.ents.length)) rfl rfl rfl (by first | (rw [cG]; rfl) | simp [cG]) ?_
    refine rw_val (v := .slice A1 b.length c1) (w' := w9) rfl rfl rfl rfl rfl ?_
    refine rw_on (c := decide (500 < n.nums.length + n.ops.length + n.ents.length)) rfl rfl rfl (by first | (rw [cG]; rfl) | simp [cG]) ?_
    refine rw_val (v := .int .i64 ((b.length : Nat) : Int)) (w' := w9) rfl rfl rfl rfl (by simp [go_sem, sEv, sLook, nbeq, i64_w, -List.getD_eq_getElem?_getD]) ?_
    refine rw_on (c := decide (500 < n.nums.length + n.ops.length + n.ents.length)) rfl rfl rfl (by first | (rw [cG]; rfl) | simp [cG]) ?_
    refine rw_val (v := .bool (decide (32768 < ((b.length : Nat) : Int)))) (w' := w9) rfl rfl rfl rfl (by simp [go_sem, sEv, sLook, nbeq, i64_w, -List.getD_eq_getElem?_getD]) ?_
    refine rw_val (v := .bool (decide (32768 < ((b.length : Nat) : Int)))) (w' := w9) rfl rfl rfl rfl (by first | (simp [go_sem, sEv, sLook, nbeq, i64_w, -List.getD_eq_getElem?_getD, cG]; done) | (rw [cG]; simp [go_sem, sEv, sLook, nbeq, i64_w, -List.getD_eq_getElem?_getD]; done) | (simp [go_sem, sEv, sLook, nbeq, i64_w, -List.getD_eq_getElem?_getD] <;> omega) | (simp [go_sem, sEv, sLook, nbeq, i64_w, -List.getD_eq_getElem?_getD]; intro h_; exact absurd (by omega) h_)) ?_
    refine rw_end ?_
    refine w_weaken (G' := [(1, .slice A1 b.length c1), (2, .pointer (some ⟨g1, 0, none⟩)), (4, .bool false), (21, .bool (decide (32768 < ((b.length : Nat) : Int))))]) ⟨rfl, rfl, rfl, rfl, trivial⟩ ?_
    refine w_cond rfl rfl (fun cB => ?_) (fun cB => ?_)
    · have l12 : (32768 < ((b.length : Nat) : Int)) := of_decide_eq_true cB
      refine w_seq ?_
      refine w_region ?_
      refine rw_val (v := .bool true) (w' := w9) rfl rfl rfl rfl rfl ?_
      refine rw_end ?_
      refine w_ret (post_ret1 rfl rfl ?_)
      exact ⟨by first | rfl | (simp_all; done), (chain (chain hb3 hb8) hb10)⟩
    · have l13 : ¬ (32768 < ((b.length : Nat) : Int)) := of_decide_eq_false cB
      refine w_skip ?_
      refine w_seq ?_
      refine w_region ?_
      refine rw_val (v := .agg #[.int .i64 n.kind, .int .i64 n.fr, .int .i64 n.tw, .slice A3 n.nums.length c3, .slice A4 n.ops.length c4, .slice A5 n.ents.length c5]) (w' := w9) rfl rfl rfl rfl (by have eb_ := ((hk4.on hb8).on hb10); have e0_ := eb_.cellv (i := 0) (v := (.int .i64 n.kind : Value)) rfl; have e1_ := eb_.cellv (i := 1) (v := (.int .i64 n.fr : Value)) rfl; have e2_ := eb_.cellv (i := 2) (v := (.int .i64 n.tw : Value)) rfl; have e3_ := eb_.cellv (i := 3) (v := (.slice A3 n.nums.length c3 : Value)) rfl; have e4_ := eb_.cellv (i := 4) (v := (.slice A4 n.ops.length c4 : Value)) rfl; have e5_ := eb_.cellv (i := 5) (v := (.slice A5 n.ents.length c5 : Value)) rfl; simp [go_sem, sEv, sLook, nbeq, i64_w, -List.getD_eq_getElem?_getD, e0_, e1_, e2_, e3_, e4_, e5_, Try.underlying26]) ?_
      have hI_ := listN_I hNI (by omega)
      rcases hg_ : goodN n with _ | _
      · refine rw_call rfl rfl rfl rfl (f := 12) (args := #[.agg #[.int .i64 n.kind, .int .i64 n.fr, .int .i64 n.tw, .slice A3 n.nums.length c3, .slice A4 n.ops.length c4, .slice A5 n.ents.length c5]]) (by simp [go_sem, sEv, sLook, nbeq, i64_w, -List.getD_eq_getElem?_getD]) (enc_bad w9 n A3 c3 A4 c4 A5 c5 (Kd.C_below hn3 (chain (chain hb3 hb8) hb10)) hc3 (Kd.C_below hn4 (chain (chain hb3 hb8) hb10)) hc4 (Kd.C_below hn5 (chain (chain hb3 hb8) hb10)) hc5 (by omega) (by omega) (by omega) hI_ hg_) ?_
        rintro e_ w14 ⟨A16, c17, rfl, hb15⟩
        refine ⟨_, rfl, ?_⟩
        have hs_w14 := hb15.size
        refine rw_val (v := .tuple #[.slice A16 0 c17, errT (some 2)]) (w' := w14) rfl rfl rfl rfl rfl ?_
        refine rw_val (v := .slice A16 0 c17) (w' := w14) rfl rfl rfl rfl (by simp [go_sem, sEv, sLook, nbeq, i64_w, -List.getD_eq_getElem?_getD]) ?_
        refine rw_val (v := errT (some 2)) (w' := w14) rfl rfl rfl rfl (by simp [go_sem, sEv, sLook, nbeq, i64_w, -List.getD_eq_getElem?_getD]) ?_
        refine rw_val (v := .slice A16 0 c17) (w' := w14) rfl rfl rfl rfl rfl ?_
        refine rw_val (v := errT (some 2)) (w' := w14) rfl rfl rfl rfl rfl ?_
        refine rw_end ?_
        refine w_weaken (G' := [(1, .slice A1 b.length c1), (2, .pointer (some ⟨g1, 0, none⟩)), (4, .bool false), (5, .slice A16 0 c17), (6, errT (some 2))]) ⟨rfl, rfl, rfl, rfl, rfl, trivial⟩ ?_
        refine w_seq ?_
        refine w_seq ?_
        refine w_region ?_
        refine rw_val (v := .agg #[.int .i64 n.kind, .int .i64 n.fr, .int .i64 n.tw, .slice A3 n.nums.length c3, .slice A4 n.ops.length c4, .slice A5 n.ents.length c5]) (w' := w14) rfl rfl rfl rfl (by have eb_ := (((hk4.on hb8).on hb10).on hb15); have e0_ := eb_.cellv (i := 0) (v := (.int .i64 n.kind : Value)) rfl; have e1_ := eb_.cellv (i := 1) (v := (.int .i64 n.fr : Value)) rfl; have e2_ := eb_.cellv (i := 2) (v := (.int .i64 n.tw : Value)) rfl; have e3_ := eb_.cellv (i := 3) (v := (.slice A3 n.nums.length c3 : Value)) rfl; have e4_ := eb_.cellv (i := 4) (v := (.slice A4 n.ops.length c4 : Value)) rfl; have e5_ := eb_.cellv (i := 5) (v := (.slice A5 n.ents.length c5 : Value)) rfl; simp [go_sem, sEv, sLook, nbeq, i64_w, -List.getD_eq_getElem?_getD, e0_, e1_, e2_, e3_, e4_, e5_, Try.underlying26]) ?_
        · refine rw_call rfl rfl rfl rfl (f := 15) (args := #[.agg #[.int .i64 n.kind, .int .i64 n.fr, .int .i64 n.tw, .slice A3 n.nums.length c3, .slice A4 n.ops.length c4, .slice A5 n.ents.length c5]]) (by simp [go_sem, sEv, sLook, nbeq, i64_w, -List.getD_eq_getElem?_getD]) (check_no w14 n A3 c3 A4 c4 A5 c5 (Kd.C_below hn3 (chain (chain (chain hb3 hb8) hb10) hb15)) hc3 (Kd.C_below hn4 (chain (chain (chain hb3 hb8) hb10) hb15)) hc4 (Kd.C_below hn5 (chain (chain (chain hb3 hb8) hb10) hb15)) hc5 (by omega) (by omega) (by omega) hg_) ?_
          rintro e_ w18 ⟨rfl, hb19⟩
          refine ⟨_, rfl, ?_⟩
          have hs_w18 := hb19.size
          refine rw_val (v := .bool ((some 2).isNone)) (w' := w18) rfl rfl rfl rfl (run_as (guard_err_eq0 _ (some 2) _)) ?_
          refine rw_end ?_
          have hq20 : ((some 2).isNone) = false := by rfl
          refine w_cond_f rfl rfl hq20 ?_
          refine w_seq ?_
          refine w_region ?_
          refine rw_val (v := errT (some 2)) (w' := w18) rfl rfl rfl rfl rfl ?_
          refine rw_val (v := errT (some 2)) (w' := w18) rfl rfl rfl rfl (by simp [go_sem, sEv, sLook, nbeq, i64_w, -List.getD_eq_getElem?_getD, errT]) ?_
          refine rw_val (v := .bool false) (w' := w18) rfl rfl rfl rfl (run_bool (run_as (guard_err_nec _ _ (some 2) 2 _)) (by decide)) ?_
          refine rw_val (v := .bool false) (w' := w18) rfl rfl rfl rfl rfl ?_
          refine rw_on (c := false) rfl rfl rfl rfl ?_
          refine rw_val (v := .slice A16 0 c17) (w' := w18) rfl rfl rfl rfl rfl ?_
          refine rw_on (c := false) rfl rfl rfl rfl ?_
          refine rw_val (v := .int .i64 0) (w' := w18) rfl rfl rfl rfl (by simp [go_sem, sEv, sLook, nbeq, i64_w, -List.getD_eq_getElem?_getD]) ?_
          refine rw_on (c := false) rfl rfl rfl rfl ?_
          refine rw_val (v := .bool false) (w' := w18) rfl rfl rfl rfl (by simp [go_sem, sEv, sLook, nbeq, i64_w, -List.getD_eq_getElem?_getD]) ?_
          refine rw_val (v := .bool false) (w' := w18) rfl rfl rfl rfl (by simp [go_sem, sEv, sLook, nbeq, i64_w, -List.getD_eq_getElem?_getD]) ?_
          refine rw_end ?_
          refine w_weaken (G' := [(1, .slice A1 b.length c1), (4, .bool false), (60, .bool false)]) ⟨rfl, rfl, rfl, trivial⟩ ?_
          refine w_cond_f rfl rfl rfl ?_
          refine w_skip ?_
          refine w_seq ?_
          refine w_region ?_
          refine rw_val (v := .slice A1 b.length c1) (w' := w18) rfl rfl rfl rfl rfl ?_
          rcases dec_cases b with hD_ | hD_ | ⟨n8, hD_⟩
          · refine rw_call rfl rfl rfl rfl (f := 19) (args := #[.slice A1 b.length c1]) (by simp [go_sem, sEv, sLook, nbeq, i64_w, -List.getD_eq_getElem?_getD]) (dec_none w18 A1 c1 b 3 (Kd.C_below hb1 (chain (chain (chain (chain hb3 hb8) hb10) hb15) hb19)) hcb hbb (by omega) hD_) ?_
            rintro e_ w21 ⟨A23, c24, A25, c26, A27, c28, rfl, hb22⟩
            refine ⟨_, rfl, ?_⟩
            have hs_w21 := hb22.size
            refine rw_val (v := .tuple #[.agg #[.int .i64 0, .int .i64 0, .int .i64 0, .slice A23 0 c24, .slice A25 0 c26, .slice A27 0 c28], errT (some 3)]) (w' := w21) rfl rfl rfl rfl rfl ?_
            refine rw_val (v := .agg #[.int .i64 0, .int .i64 0, .int .i64 0, .slice A23 0 c24, .slice A25 0 c26, .slice A27 0 c28]) (w' := w21) rfl rfl rfl rfl (by simp [go_sem, sEv, sLook, nbeq, i64_w, -List.getD_eq_getElem?_getD]) ?_
            refine rw_val (v := errT (some 3)) (w' := w21) rfl rfl rfl rfl (by simp [go_sem, sEv, sLook, nbeq, i64_w, -List.getD_eq_getElem?_getD]) ?_
            refine rw_new (cs := #[.int .i64 0, .int .i64 0, .int .i64 0, .slice none 0 0, .slice none 0 0, .slice none 0 0]) (t := 26) (fun g => .pointer (some ⟨g, 0, none⟩)) rfl rfl rfl rfl (by kernel_rfl) ?_
            intro g29 w30 hg34 hz33 hb31 hk32
            have hs_w30 := hb31.size
            have hb38 := hk32
            refine rw_store (g := g29) (i := 0) (l := [.int .i64 0, .int .i64 0, .int .i64 0, .slice A23 0 c24, .slice A25 0 c26, .slice A27 0 c28]) (cs' := #[.int .i64 0, .int .i64 0, .int .i64 0, .slice A23 0 c24, .slice A25 0 c26, .slice A27 0 c28]) rfl rfl rfl hb38 rfl (by have e0_ := hb38.cellv (i := 0) (v := (.int .i64 0 : Value)) rfl; have f0_ := hb38.frozen 0; have e1_ := hb38.cellv (i := 1) (v := (.int .i64 0 : Value)) rfl; have f1_ := hb38.frozen 1; have e2_ := hb38.cellv (i := 2) (v := (.int .i64 0 : Value)) rfl; have f2_ := hb38.frozen 2; have e3_ := hb38.cellv (i := 3) (v := (.slice none 0 0 : Value)) rfl; have f3_ := hb38.frozen 3; have e4_ := hb38.cellv (i := 4) (v := (.slice none 0 0 : Value)) rfl; have f4_ := hb38.frozen 4; have e5_ := hb38.cellv (i := 5) (v := (.slice none 0 0 : Value)) rfl; have f5_ := hb38.frozen 5; simp [go_sem, sEv, sLook, nbeq, i64_w, -List.getD_eq_getElem?_getD, putCells, e0_, f0_, e1_, f1_, e2_, f2_, e3_, f3_, e4_, f4_, e5_, f5_, Try.underlying26]) ?_
            intro w35 hk36 hk37
            have hs_w35 := hk36.size
            refine rw_val (v := errT (some 3)) (w' := w35) rfl rfl rfl rfl rfl ?_
            refine rw_end ?_
            refine w_weaken (G' := [(1, .slice A1 b.length c1), (4, .bool false), (9, .pointer (some ⟨g29, 0, none⟩)), (10, errT (some 3))]) ⟨rfl, rfl, rfl, rfl, trivial⟩ ?_
            refine w_seq ?_
            refine w_seq ?_
            refine w_region ?_
            refine rw_val (v := errT (some 3)) (w' := w35) rfl rfl rfl rfl rfl ?_
            refine rw_val (v := .bool ((some 3).isSome)) (w' := w35) rfl rfl rfl rfl (run_as (guard_err_neq _ (some 3) _)) ?_
            refine rw_end ?_
            have hq39 : ((some 3).isSome) = true := by rfl
            refine w_cond_t rfl rfl hq39 ?_
            refine w_seq ?_
            refine w_region ?_
            refine rw_val (v := errT (some 3)) (w' := w35) rfl rfl rfl rfl rfl ?_
            refine rw_val (v := errT (some 3)) (w' := w35) rfl rfl rfl rfl (by simp [go_sem, sEv, sLook, nbeq, i64_w, -List.getD_eq_getElem?_getD, errT]) ?_
            refine rw_val (v := .bool true) (w' := w35) rfl rfl rfl rfl (run_bool (run_as (guard_err_eql _ _ (some 3) 3 _)) (by decide)) ?_
            refine rw_val (v := .bool true) (w' := w35) rfl rfl rfl rfl rfl ?_
            refine rw_off (c := true) rfl rfl rfl rfl rfl rfl ?_
            refine rw_off (c := true) rfl rfl rfl rfl rfl rfl ?_
            refine rw_off (c := true) rfl rfl rfl rfl rfl rfl ?_
            refine rw_val (v := .bool true) (w' := w35) rfl rfl rfl rfl (by simp [go_sem, sEv, sLook, nbeq, i64_w, -List.getD_eq_getElem?_getD]) ?_
            refine rw_val (v := .bool true) (w' := w35) rfl rfl rfl rfl rfl ?_
            refine rw_end ?_
            refine w_weaken (G' := [(1, .slice A1 b.length c1), (4, .bool true), (9, .pointer (some ⟨g29, 0, none⟩))]) ⟨rfl, rfl, rfl, trivial⟩ ?_
            refine w_ret (post_ret1 rfl rfl ?_)
            exact ⟨by first | rfl | (simp_all; done), (hk36.below (by omega) (chain (chain (chain (chain (chain (chain hb3 hb8) hb10) hb15) hb19) hb22) hb31))⟩
          · refine rw_call rfl rfl rfl rfl (f := 19) (args := #[.slice A1 b.length c1]) (by simp [go_sem, sEv, sLook, nbeq, i64_w, -List.getD_eq_getElem?_getD]) (dec_none w18 A1 c1 b 4 (Kd.C_below hb1 (chain (chain (chain (chain hb3 hb8) hb10) hb15) hb19)) hcb hbb (by omega) hD_) ?_
            rintro e_ w40 ⟨A42, c43, A44, c45, A46, c47, rfl, hb41⟩
            refine ⟨_, rfl, ?_⟩
            have hs_w40 := hb41.size
            refine rw_val (v := .tuple #[.agg #[.int .i64 0, .int .i64 0, .int .i64 0, .slice A42 0 c43, .slice A44 0 c45, .slice A46 0 c47], errT (some 4)]) (w' := w40) rfl rfl rfl rfl rfl ?_
            refine rw_val (v := .agg #[.int .i64 0, .int .i64 0, .int .i64 0, .slice A42 0 c43, .slice A44 0 c45, .slice A46 0 c47]) (w' := w40) rfl rfl rfl rfl (by simp [go_sem, sEv, sLook, nbeq, i64_w, -List.getD_eq_getElem?_getD]) ?_
            refine rw_val (v := errT (some 4)) (w' := w40) rfl rfl rfl rfl (by simp [go_sem, sEv, sLook, nbeq, i64_w, -List.getD_eq_getElem?_getD]) ?_
            refine rw_new (cs := #[.int .i64 0, .int .i64 0, .int .i64 0, .slice none 0 0, .slice none 0 0, .slice none 0 0]) (t := 26) (fun g => .pointer (some ⟨g, 0, none⟩)) rfl rfl rfl rfl (by kernel_rfl) ?_
            intro g48 w49 hg53 hz52 hb50 hk51
            have hs_w49 := hb50.size
            have hb57 := hk51
            refine rw_store (g := g48) (i := 0) (l := [.int .i64 0, .int .i64 0, .int .i64 0, .slice A42 0 c43, .slice A44 0 c45, .slice A46 0 c47]) (cs' := #[.int .i64 0, .int .i64 0, .int .i64 0, .slice A42 0 c43, .slice A44 0 c45, .slice A46 0 c47]) rfl rfl rfl hb57 rfl (by have e0_ := hb57.cellv (i := 0) (v := (.int .i64 0 : Value)) rfl; have f0_ := hb57.frozen 0; have e1_ := hb57.cellv (i := 1) (v := (.int .i64 0 : Value)) rfl; have f1_ := hb57.frozen 1; have e2_ := hb57.cellv (i := 2) (v := (.int .i64 0 : Value)) rfl; have f2_ := hb57.frozen 2; have e3_ := hb57.cellv (i := 3) (v := (.slice none 0 0 : Value)) rfl; have f3_ := hb57.frozen 3; have e4_ := hb57.cellv (i := 4) (v := (.slice none 0 0 : Value)) rfl; have f4_ := hb57.frozen 4; have e5_ := hb57.cellv (i := 5) (v := (.slice none 0 0 : Value)) rfl; have f5_ := hb57.frozen 5; simp [go_sem, sEv, sLook, nbeq, i64_w, -List.getD_eq_getElem?_getD, putCells, e0_, f0_, e1_, f1_, e2_, f2_, e3_, f3_, e4_, f4_, e5_, f5_, Try.underlying26]) ?_
            intro w54 hk55 hk56
            have hs_w54 := hk55.size
            refine rw_val (v := errT (some 4)) (w' := w54) rfl rfl rfl rfl rfl ?_
            refine rw_end ?_
            refine w_weaken (G' := [(1, .slice A1 b.length c1), (4, .bool false), (9, .pointer (some ⟨g48, 0, none⟩)), (10, errT (some 4))]) ⟨rfl, rfl, rfl, rfl, trivial⟩ ?_
            refine w_seq ?_
            refine w_seq ?_
            refine w_region ?_
            refine rw_val (v := errT (some 4)) (w' := w54) rfl rfl rfl rfl rfl ?_
            refine rw_val (v := .bool ((some 4).isSome)) (w' := w54) rfl rfl rfl rfl (run_as (guard_err_neq _ (some 4) _)) ?_
            refine rw_end ?_
            have hq58 : ((some 4).isSome) = true := by rfl
            refine w_cond_t rfl rfl hq58 ?_
            refine w_seq ?_
            refine w_region ?_
            refine rw_val (v := errT (some 4)) (w' := w54) rfl rfl rfl rfl rfl ?_
            refine rw_val (v := errT (some 3)) (w' := w54) rfl rfl rfl rfl (by simp [go_sem, sEv, sLook, nbeq, i64_w, -List.getD_eq_getElem?_getD, errT]) ?_
            refine rw_val (v := .bool false) (w' := w54) rfl rfl rfl rfl (run_bool (run_as (guard_err_eql _ _ (some 4) 3 _)) (by decide)) ?_
            refine rw_val (v := .bool false) (w' := w54) rfl rfl rfl rfl rfl ?_
            refine rw_on (c := false) rfl rfl rfl rfl ?_
            refine rw_val (v := errT (some 4)) (w' := w54) rfl rfl rfl rfl rfl ?_
            refine rw_on (c := false) rfl rfl rfl rfl ?_
            refine rw_val (v := errT (some 4)) (w' := w54) rfl rfl rfl rfl (by simp [go_sem, sEv, sLook, nbeq, i64_w, -List.getD_eq_getElem?_getD, errT]) ?_
            refine rw_on (c := false) rfl rfl rfl rfl ?_
            refine rw_val (v := .bool true) (w' := w54) rfl rfl rfl rfl (run_bool (run_as (guard_err_eql _ _ (some 4) 4 _)) (by decide)) ?_
            refine rw_val (v := .bool true) (w' := w54) rfl rfl rfl rfl (by simp [go_sem, sEv, sLook, nbeq, i64_w, -List.getD_eq_getElem?_getD]) ?_
            refine rw_val (v := .bool true) (w' := w54) rfl rfl rfl rfl rfl ?_
            refine rw_end ?_
            refine w_weaken (G' := [(1, .slice A1 b.length c1), (4, .bool true), (9, .pointer (some ⟨g48, 0, none⟩))]) ⟨rfl, rfl, rfl, trivial⟩ ?_
            refine w_ret (post_ret1 rfl rfl ?_)
            exact ⟨by first | rfl | (simp_all; done), (hk55.below (by omega) (chain (chain (chain (chain (chain (chain hb3 hb8) hb10) hb15) hb19) hb41) hb50))⟩
          · have hI8_ := dec_I hbb hD_
            have hE8_ := enc_dec hbb hD_
            obtain ⟨hz3_, hz4_, hz5_⟩ := good_sz hE8_.1
            refine rw_call rfl rfl rfl rfl (f := 19) (args := #[.slice A1 b.length c1]) (by simp [go_sem, sEv, sLook, nbeq, i64_w, -List.getD_eq_getElem?_getD]) (dec_some w18 A1 c1 b n8 (Kd.C_below hb1 (chain (chain (chain (chain hb3 hb8) hb10) hb15) hb19)) hcb hbb (by omega) hD_) ?_
            rintro e_ w59 ⟨A64, c65, A66, c67, A68, c69, rfl, hO610, hO620, hO630, hb60⟩
            refine ⟨_, rfl, ?_⟩
            have hs_w59 := hb60.size
            have hO61 := OwnK.lower (base' := w.heap.size) (d := (Kd.int .i64)) hO610 (by omega)
            have hO62 := OwnK.lower (base' := w.heap.size) (d := kOp) hO620 (by omega)
            have hO63 := OwnK.lower (base' := w.heap.size) (d := kEntry) hO630 (by omega)
            refine rw_val (v := .tuple #[.agg #[.int .i64 n8.kind, .int .i64 n8.fr, .int .i64 n8.tw, .slice A64 n8.nums.length c65, .slice A66 n8.ops.length c67, .slice A68 n8.ents.length c69], .nilIface]) (w' := w59) rfl rfl rfl rfl rfl ?_
            refine rw_val (v := .agg #[.int .i64 n8.kind, .int .i64 n8.fr, .int .i64 n8.tw, .slice A64 n8.nums.length c65, .slice A66 n8.ops.length c67, .slice A68 n8.ents.length c69]) (w' := w59) rfl rfl rfl rfl (by simp [go_sem, sEv, sLook, nbeq, i64_w, -List.getD_eq_getElem?_getD]) ?_
            refine rw_val (v := .nilIface) (w' := w59) rfl rfl rfl rfl (by simp [go_sem, sEv, sLook, nbeq, i64_w, -List.getD_eq_getElem?_getD]) ?_
            refine rw_new (cs := #[.int .i64 0, .int .i64 0, .int .i64 0, .slice none 0 0, .slice none 0 0, .slice none 0 0]) (t := 26) (fun g => .pointer (some ⟨g, 0, none⟩)) rfl rfl rfl rfl (by kernel_rfl) ?_
            intro g70 w71 hg75 hz74 hb72 hk73
            have hs_w71 := hb72.size
            have hb79 := hk73
            refine rw_store (g := g70) (i := 0) (l := [.int .i64 n8.kind, .int .i64 n8.fr, .int .i64 n8.tw, .slice A64 n8.nums.length c65, .slice A66 n8.ops.length c67, .slice A68 n8.ents.length c69]) (cs' := #[.int .i64 n8.kind, .int .i64 n8.fr, .int .i64 n8.tw, .slice A64 n8.nums.length c65, .slice A66 n8.ops.length c67, .slice A68 n8.ents.length c69]) rfl rfl rfl hb79 rfl (by have e0_ := hb79.cellv (i := 0) (v := (.int .i64 0 : Value)) rfl; have f0_ := hb79.frozen 0; have e1_ := hb79.cellv (i := 1) (v := (.int .i64 0 : Value)) rfl; have f1_ := hb79.frozen 1; have e2_ := hb79.cellv (i := 2) (v := (.int .i64 0 : Value)) rfl; have f2_ := hb79.frozen 2; have e3_ := hb79.cellv (i := 3) (v := (.slice none 0 0 : Value)) rfl; have f3_ := hb79.frozen 3; have e4_ := hb79.cellv (i := 4) (v := (.slice none 0 0 : Value)) rfl; have f4_ := hb79.frozen 4; have e5_ := hb79.cellv (i := 5) (v := (.slice none 0 0 : Value)) rfl; have f5_ := hb79.frozen 5; simp [go_sem, sEv, sLook, nbeq, i64_w, -List.getD_eq_getElem?_getD, putCells, e0_, f0_, e1_, f1_, e2_, f2_, e3_, f3_, e4_, f4_, e5_, f5_, Try.underlying26]) ?_
            intro w76 hk77 hk78
            have hs_w76 := hk77.size
            refine rw_val (v := .nilIface) (w' := w76) rfl rfl rfl rfl rfl ?_
            refine rw_end ?_
            refine w_weaken (G' := [(1, .slice A1 b.length c1), (4, .bool false), (9, .pointer (some ⟨g70, 0, none⟩)), (10, .nilIface)]) ⟨rfl, rfl, rfl, rfl, trivial⟩ ?_
            refine w_seq ?_
            refine w_seq ?_
            refine w_region ?_
            refine rw_val (v := .nilIface) (w' := w76) rfl rfl rfl rfl rfl ?_
            refine rw_val (v := .bool ((none : Option Int).isSome)) (w' := w76) rfl rfl rfl rfl (run_as (guard_err_neq _ (none : Option Int) _)) ?_
            refine rw_end ?_
            have hq80 : ((none : Option Int).isSome) = false := by rfl
            refine w_cond_f rfl rfl hq80 ?_
            refine w_skip ?_
            refine w_seq ?_
            refine w_region ?_
            refine rw_val (v := .agg #[.int .i64 n8.kind, .int .i64 n8.fr, .int .i64 n8.tw, .slice A64 n8.nums.length c65, .slice A66 n8.ops.length c67, .slice A68 n8.ents.length c69]) (w' := w76) rfl rfl rfl rfl (by have eb_ := hk78; have e0_ := eb_.cellv (i := 0) (v := (.int .i64 n8.kind : Value)) rfl; have e1_ := eb_.cellv (i := 1) (v := (.int .i64 n8.fr : Value)) rfl; have e2_ := eb_.cellv (i := 2) (v := (.int .i64 n8.tw : Value)) rfl; have e3_ := eb_.cellv (i := 3) (v := (.slice A64 n8.nums.length c65 : Value)) rfl; have e4_ := eb_.cellv (i := 4) (v := (.slice A66 n8.ops.length c67 : Value)) rfl; have e5_ := eb_.cellv (i := 5) (v := (.slice A68 n8.ents.length c69 : Value)) rfl; simp [go_sem, sEv, sLook, nbeq, i64_w, -List.getD_eq_getElem?_getD, e0_, e1_, e2_, e3_, e4_, e5_, Try.underlying26]) ?_
            · refine rw_call rfl rfl rfl rfl (f := 12) (args := #[.agg #[.int .i64 n8.kind, .int .i64 n8.fr, .int .i64 n8.tw, .slice A64 n8.nums.length c65, .slice A66 n8.ops.length c67, .slice A68 n8.ents.length c69]]) (by simp [go_sem, sEv, sLook, nbeq, i64_w, -List.getD_eq_getElem?_getD]) (enc_good w76 n8 A64 c65 A66 c67 A68 c69 (OwnK.C (d := (Kd.int .i64)) (own_keep (d := (Kd.int .i64)) (OwnK.on (d := (Kd.int .i64)) hO61 hb72) hk73 (by decide) hk77)) (OwnK.cap (d := (Kd.int .i64)) hO61) (OwnK.C (d := kOp) (own_keep (d := kOp) (OwnK.on (d := kOp) hO62 hb72) hk73 (by decide) hk77)) (OwnK.cap (d := kOp) hO62) (OwnK.C (d := kEntry) (own_keep (d := kEntry) (OwnK.on (d := kEntry) hO63 hb72) hk73 (by decide) hk77)) (OwnK.cap (d := kEntry) hO63) (by omega) (by omega) (by omega) hI8_ hE8_.1 hE8_.2) ?_
              rintro e_ w81 ⟨A83, c84, rfl, hO850, hb82⟩
              refine ⟨_, rfl, ?_⟩
              have hs_w81 := hb82.size
              have hO85 := OwnK.lower (base' := w.heap.size) (d := (Kd.int .u8)) hO850 (by omega)
              refine rw_val (v := .tuple #[.slice A83 b.length c84, .nilIface]) (w' := w81) rfl rfl rfl rfl rfl ?_
              refine rw_val (v := .slice A83 b.length c84) (w' := w81) rfl rfl rfl rfl (by simp [go_sem, sEv, sLook, nbeq, i64_w, -List.getD_eq_getElem?_getD]) ?_
              refine rw_val (v := .nilIface) (w' := w81) rfl rfl rfl rfl (by simp [go_sem, sEv, sLook, nbeq, i64_w, -List.getD_eq_getElem?_getD]) ?_
              refine rw_val (v := .slice A83 b.length c84) (w' := w81) rfl rfl rfl rfl rfl ?_
              refine rw_val (v := .nilIface) (w' := w81) rfl rfl rfl rfl rfl ?_
              refine rw_end ?_
              refine w_weaken (G' := [(1, .slice A1 b.length c1), (4, .bool false), (11, .slice A83 b.length c84), (12, .nilIface)]) ⟨rfl, rfl, rfl, rfl, trivial⟩ ?_
              refine w_seq ?_
              refine w_region ?_
              refine rw_val (v := .nilIface) (w' := w81) rfl rfl rfl rfl rfl ?_
              refine rw_val (v := .bool ((none : Option Int).isNone)) (w' := w81) rfl rfl rfl rfl (run_as (guard_err_eq0 _ (none : Option Int) _)) ?_
              refine rw_val (v := .bool ((none : Option Int).isNone)) (w' := w81) rfl rfl rfl rfl rfl ?_
              have hq86 : ((none : Option Int).isNone) = true := by rfl
              refine rw_on (c := (none : Option Int).isNone) rfl rfl rfl (by first | (rw [hq86]; rfl) | simp [hq86]) ?_
              refine rw_val (v := .slice A83 b.length c84) (w' := w81) rfl rfl rfl rfl rfl ?_
              refine rw_on (c := (none : Option Int).isNone) rfl rfl rfl (by first | (rw [hq86]; rfl) | simp [hq86]) ?_
              refine rw_val (v := .string (strOfNums b)) (w' := w81) rfl rfl rfl rfl (run_as (run_str_of (P := Try.prog) (e := 5) (by kernel_rfl) (by kernel_rfl) (by kernel_rfl) (OwnK.C (d := (Kd.int .u8)) hO85))) ?_
              refine rw_on (c := (none : Option Int).isNone) rfl rfl rfl (by first | (rw [hq86]; rfl) | simp [hq86]) ?_
              refine rw_val (v := .slice A1 b.length c1) (w' := w81) rfl rfl rfl rfl rfl ?_
              refine rw_on (c := (none : Option Int).isNone) rfl rfl rfl (by first | (rw [hq86]; rfl) | simp [hq86]) ?_
              refine rw_val (v := .string (strOfNums b)) (w' := w81) rfl rfl rfl rfl (run_as (run_str_of (P := Try.prog) (e := 5) (by kernel_rfl) (by kernel_rfl) (by kernel_rfl) (Kd.C_below hb1 (chain (hk77.below (by omega) (chain (chain (chain (chain (chain (chain hb3 hb8) hb10) hb15) hb19) hb60) hb72)) hb82)))) ?_
              refine rw_on (c := (none : Option Int).isNone) rfl rfl rfl (by first | (rw [hq86]; rfl) | simp [hq86]) ?_
              refine rw_val (v := .bool true) (w' := w81) rfl rfl rfl rfl (run_bool (run_as (run_str_eql 9 _ _ _)) (by simp)) ?_
              refine rw_val (v := .bool true) (w' := w81) rfl rfl rfl rfl (by first | (simp [go_sem, sEv, sLook, nbeq, i64_w, -List.getD_eq_getElem?_getD, hq86]; done) | (rw [hq86]; simp [go_sem, sEv, sLook, nbeq, i64_w, -List.getD_eq_getElem?_getD]; done) | (simp [go_sem, sEv, sLook, nbeq, i64_w, -List.getD_eq_getElem?_getD] <;> omega) | (simp [go_sem, sEv, sLook, nbeq, i64_w, -List.getD_eq_getElem?_getD]; intro h_; exact absurd (by omega) h_)) ?_
              refine rw_val (v := .bool true) (w' := w81) rfl rfl rfl rfl rfl ?_
              refine rw_end ?_
              refine w_weaken (G' := [(4, .bool true)]) ⟨rfl, trivial⟩ ?_
              refine w_ret (post_ret1 rfl rfl ?_)
              exact ⟨by first | rfl | (simp_all; done), (chain (hk77.below (by omega) (chain (chain (chain (chain (chain (chain hb3 hb8) hb10) hb15) hb19) hb60) hb72)) hb82)⟩
      · have hk_ := enc_ok hg_ hI_
        have hf_ := eb_facts hg_ hI_
        have hlf_ := hf_.2
        refine rw_call rfl rfl rfl rfl (f := 12) (args := #[.agg #[.int .i64 n.kind, .int .i64 n.fr, .int .i64 n.tw, .slice A3 n.nums.length c3, .slice A4 n.ops.length c4, .slice A5 n.ents.length c5]]) (by simp [go_sem, sEv, sLook, nbeq, i64_w, -List.getD_eq_getElem?_getD]) (enc_good w9 n A3 c3 A4 c4 A5 c5 (Kd.C_below hn3 (chain (chain hb3 hb8) hb10)) hc3 (Kd.C_below hn4 (chain (chain hb3 hb8) hb10)) hc4 (Kd.C_below hn5 (chain (chain hb3 hb8) hb10)) hc5 (by omega) (by omega) (by omega) hI_ hg_ rfl) ?_
        rintro e_ w87 ⟨A89, c90, rfl, hO910, hb88⟩
        refine ⟨_, rfl, ?_⟩
        have hs_w87 := hb88.size
        have hO91 := OwnK.lower (base' := w.heap.size) (d := (Kd.int .u8)) hO910 (by omega)
        refine rw_val (v := .tuple #[.slice A89 ((EB n).length) c90, .nilIface]) (w' := w87) rfl rfl rfl rfl rfl ?_
        refine rw_val (v := .slice A89 ((EB n).length) c90) (w' := w87) rfl rfl rfl rfl (by simp [go_sem, sEv, sLook, nbeq, i64_w, -List.getD_eq_getElem?_getD]) ?_
        refine rw_val (v := .nilIface) (w' := w87) rfl rfl rfl rfl (by simp [go_sem, sEv, sLook, nbeq, i64_w, -List.getD_eq_getElem?_getD]) ?_
        refine rw_val (v := .slice A89 ((EB n).length) c90) (w' := w87) rfl rfl rfl rfl rfl ?_
        refine rw_val (v := .nilIface) (w' := w87) rfl rfl rfl rfl rfl ?_
        refine rw_end ?_
        refine w_weaken (G' := [(1, .slice A1 b.length c1), (2, .pointer (some ⟨g1, 0, none⟩)), (4, .bool false), (5, .slice A89 ((EB n).length) c90), (6, .nilIface)]) ⟨rfl, rfl, rfl, rfl, rfl, trivial⟩ ?_
        refine w_seq ?_
        refine w_seq ?_
        refine w_region ?_
        refine rw_val (v := .agg #[.int .i64 n.kind, .int .i64 n.fr, .int .i64 n.tw, .slice A3 n.nums.length c3, .slice A4 n.ops.length c4, .slice A5 n.ents.length c5]) (w' := w87) rfl rfl rfl rfl (by have eb_ := (((hk4.on hb8).on hb10).on hb88); have e0_ := eb_.cellv (i := 0) (v := (.int .i64 n.kind : Value)) rfl; have e1_ := eb_.cellv (i := 1) (v := (.int .i64 n.fr : Value)) rfl; have e2_ := eb_.cellv (i := 2) (v := (.int .i64 n.tw : Value)) rfl; have e3_ := eb_.cellv (i := 3) (v := (.slice A3 n.nums.length c3 : Value)) rfl; have e4_ := eb_.cellv (i := 4) (v := (.slice A4 n.ops.length c4 : Value)) rfl; have e5_ := eb_.cellv (i := 5) (v := (.slice A5 n.ents.length c5 : Value)) rfl; simp [go_sem, sEv, sLook, nbeq, i64_w, -List.getD_eq_getElem?_getD, e0_, e1_, e2_, e3_, e4_, e5_, Try.underlying26]) ?_
        · refine rw_call rfl rfl rfl rfl (f := 15) (args := #[.agg #[.int .i64 n.kind, .int .i64 n.fr, .int .i64 n.tw, .slice A3 n.nums.length c3, .slice A4 n.ops.length c4, .slice A5 n.ents.length c5]]) (by simp [go_sem, sEv, sLook, nbeq, i64_w, -List.getD_eq_getElem?_getD]) (check_yes w87 n A3 c3 A4 c4 A5 c5 (Kd.C_below hn3 (chain (chain (chain hb3 hb8) hb10) hb88)) hc3 (Kd.C_below hn4 (chain (chain (chain hb3 hb8) hb10) hb88)) hc4 (Kd.C_below hn5 (chain (chain (chain hb3 hb8) hb10) hb88)) hc5 (by omega) (by omega) (by omega) hg_) ?_
          rintro e_ w92 ⟨rfl, hb93⟩
          refine ⟨_, rfl, ?_⟩
          have hs_w92 := hb93.size
          refine rw_val (v := .bool ((none : Option Int).isNone)) (w' := w92) rfl rfl rfl rfl (run_as (guard_err_eq0 _ (none : Option Int) _)) ?_
          refine rw_end ?_
          have hq94 : ((none : Option Int).isNone) = true := by rfl
          refine w_cond_t rfl rfl hq94 ?_
          refine w_seq ?_
          refine w_region ?_
          refine rw_val (v := .slice A89 ((EB n).length) c90) (w' := w92) rfl rfl rfl rfl rfl ?_
          · refine rw_call rfl rfl rfl rfl (f := 19) (args := #[.slice A89 ((EB n).length) c90]) (by simp [go_sem, sEv, sLook, nbeq, i64_w, -List.getD_eq_getElem?_getD]) (dec_some w92 A89 c90 (EB n) n (OwnK.C (d := (Kd.int .u8)) (OwnK.on (d := (Kd.int .u8)) hO91 hb93)) (OwnK.cap (d := (Kd.int .u8)) hO91) hf_.1 (by omega) (dec_enc hg_ hI_ (fun x hx => (hNI.2.2.2 x hx).2.2.1) hk_.2)) ?_
            rintro e_ w95 ⟨A100, c101, A102, c103, A104, c105, rfl, hO970, hO980, hO990, hb96⟩
            refine ⟨_, rfl, ?_⟩
            have hs_w95 := hb96.size
            have hO97 := OwnK.lower (base' := w.heap.size) (d := (Kd.int .i64)) hO970 (by omega)
            have hO98 := OwnK.lower (base' := w.heap.size) (d := kOp) hO980 (by omega)
            have hO99 := OwnK.lower (base' := w.heap.size) (d := kEntry) hO990 (by omega)
            refine rw_val (v := .tuple #[.agg #[.int .i64 n.kind, .int .i64 n.fr, .int .i64 n.tw, .slice A100 n.nums.length c101, .slice A102 n.ops.length c103, .slice A104 n.ents.length c105], .nilIface]) (w' := w95) rfl rfl rfl rfl rfl ?_
            refine rw_val (v := .agg #[.int .i64 n.kind, .int .i64 n.fr, .int .i64 n.tw, .slice A100 n.nums.length c101, .slice A102 n.ops.length c103, .slice A104 n.ents.length c105]) (w' := w95) rfl rfl rfl rfl (by simp [go_sem, sEv, sLook, nbeq, i64_w, -List.getD_eq_getElem?_getD]) ?_
            refine rw_val (v := .nilIface) (w' := w95) rfl rfl rfl rfl (by simp [go_sem, sEv, sLook, nbeq, i64_w, -List.getD_eq_getElem?_getD]) ?_
            refine rw_new (cs := #[.int .i64 0, .int .i64 0, .int .i64 0, .slice none 0 0, .slice none 0 0, .slice none 0 0]) (t := 26) (fun g => .pointer (some ⟨g, 0, none⟩)) rfl rfl rfl rfl (by kernel_rfl) ?_
            intro g106 w107 hg111 hz110 hb108 hk109
            have hs_w107 := hb108.size
            have hb115 := hk109
            refine rw_store (g := g106) (i := 0) (l := [.int .i64 n.kind, .int .i64 n.fr, .int .i64 n.tw, .slice A100 n.nums.length c101, .slice A102 n.ops.length c103, .slice A104 n.ents.length c105]) (cs' := #[.int .i64 n.kind, .int .i64 n.fr, .int .i64 n.tw, .slice A100 n.nums.length c101, .slice A102 n.ops.length c103, .slice A104 n.ents.length c105]) rfl rfl rfl hb115 rfl (by have e0_ := hb115.cellv (i := 0) (v := (.int .i64 0 : Value)) rfl; have f0_ := hb115.frozen 0; have e1_ := hb115.cellv (i := 1) (v := (.int .i64 0 : Value)) rfl; have f1_ := hb115.frozen 1; have e2_ := hb115.cellv (i := 2) (v := (.int .i64 0 : Value)) rfl; have f2_ := hb115.frozen 2; have e3_ := hb115.cellv (i := 3) (v := (.slice none 0 0 : Value)) rfl; have f3_ := hb115.frozen 3; have e4_ := hb115.cellv (i := 4) (v := (.slice none 0 0 : Value)) rfl; have f4_ := hb115.frozen 4; have e5_ := hb115.cellv (i := 5) (v := (.slice none 0 0 : Value)) rfl; have f5_ := hb115.frozen 5; simp [go_sem, sEv, sLook, nbeq, i64_w, -List.getD_eq_getElem?_getD, putCells, e0_, f0_, e1_, f1_, e2_, f2_, e3_, f3_, e4_, f4_, e5_, f5_, Try.underlying26]) ?_
            intro w112 hk113 hk114
            have hs_w112 := hk113.size
            refine rw_val (v := .nilIface) (w' := w112) rfl rfl rfl rfl rfl ?_
            refine rw_end ?_
            refine w_weaken (G' := [(1, .slice A1 b.length c1), (2, .pointer (some ⟨g1, 0, none⟩)), (4, .bool false), (6, .nilIface), (7, .pointer (some ⟨g106, 0, none⟩)), (8, .nilIface)]) ⟨rfl, rfl, rfl, rfl, rfl, rfl, trivial⟩ ?_
            refine w_seq ?_
            refine w_region ?_
            refine rw_val (v := .nilIface) (w' := w112) rfl rfl rfl rfl rfl ?_
            refine rw_val (v := .bool ((none : Option Int).isSome)) (w' := w112) rfl rfl rfl rfl (run_as (guard_err_neq _ (none : Option Int) _)) ?_
            refine rw_val (v := .bool ((none : Option Int).isSome)) (w' := w112) rfl rfl rfl rfl rfl ?_
            have hq116 : ((none : Option Int).isSome) = false := by rfl
            refine rw_on (c := (none : Option Int).isSome) rfl rfl rfl (by first | (rw [hq116]; rfl) | simp [hq116]) ?_
            refine rw_val (v := .nilIface) (w' := w112) rfl rfl rfl rfl rfl ?_
            refine rw_on (c := (none : Option Int).isSome) rfl rfl rfl (by first | (rw [hq116]; rfl) | simp [hq116]) ?_
            refine rw_val (v := .bool ((none : Option Int).isSome)) (w' := w112) rfl rfl rfl rfl (run_as (guard_err_neq _ (none : Option Int) _)) ?_
            refine rw_val (v := .bool ((none : Option Int).isSome)) (w' := w112) rfl rfl rfl rfl (by first | (simp [go_sem, sEv, sLook, nbeq, i64_w, -List.getD_eq_getElem?_getD, hq116]; done) | (rw [hq116]; simp [go_sem, sEv, sLook, nbeq, i64_w, -List.getD_eq_getElem?_getD]; done) | (simp [go_sem, sEv, sLook, nbeq, i64_w, -List.getD_eq_getElem?_getD] <;> omega) | (simp [go_sem, sEv, sLook, nbeq, i64_w, -List.getD_eq_getElem?_getD]; intro h_; exact absurd (by omega) h_)) ?_
            refine rw_val (v := .bool ((none : Option Int).isSome)) (w' := w112) rfl rfl rfl rfl rfl ?_
            refine rw_on (c := (none : Option Int).isSome) rfl rfl rfl (by first | (rw [hq116]; rfl) | simp [hq116]) ?_
            refine rw_val (v := .agg #[.int .i64 n.kind, .int .i64 n.fr, .int .i64 n.tw, .slice A100 n.nums.length c101, .slice A102 n.ops.length c103, .slice A104 n.ents.length c105]) (w' := w112) rfl rfl rfl rfl (by have eb_ := hk114; have e0_ := eb_.cellv (i := 0) (v := (.int .i64 n.kind : Value)) rfl; have e1_ := eb_.cellv (i := 1) (v := (.int .i64 n.fr : Value)) rfl; have e2_ := eb_.cellv (i := 2) (v := (.int .i64 n.tw : Value)) rfl; have e3_ := eb_.cellv (i := 3) (v := (.slice A100 n.nums.length c101 : Value)) rfl; have e4_ := eb_.cellv (i := 4) (v := (.slice A102 n.ops.length c103 : Value)) rfl; have e5_ := eb_.cellv (i := 5) (v := (.slice A104 n.ents.length c105 : Value)) rfl; simp [go_sem, sEv, sLook, nbeq, i64_w, -List.getD_eq_getElem?_getD, e0_, e1_, e2_, e3_, e4_, e5_, Try.underlying26]) ?_
            refine rw_on (c := (none : Option Int).isSome) rfl rfl rfl (by first | (rw [hq116]; rfl) | simp [hq116]) ?_
            refine rw_val (v := .agg #[.int .i64 n.kind, .int .i64 n.fr, .int .i64 n.tw, .slice A3 n.nums.length c3, .slice A4 n.ops.length c4, .slice A5 n.ents.length c5]) (w' := w112) rfl rfl rfl rfl (by have eb_ := (((((((hk4.on hb8).on hb10).on hb88).on hb93).on hb96).on hb108).keep hk113 (by omega)); have e0_ := eb_.cellv (i := 0) (v := (.int .i64 n.kind : Value)) rfl; have e1_ := eb_.cellv (i := 1) (v := (.int .i64 n.fr : Value)) rfl; have e2_ := eb_.cellv (i := 2) (v := (.int .i64 n.tw : Value)) rfl; have e3_ := eb_.cellv (i := 3) (v := (.slice A3 n.nums.length c3 : Value)) rfl; have e4_ := eb_.cellv (i := 4) (v := (.slice A4 n.ops.length c4 : Value)) rfl; have e5_ := eb_.cellv (i := 5) (v := (.slice A5 n.ents.length c5 : Value)) rfl; simp [go_sem, sEv, sLook, nbeq, i64_w, -List.getD_eq_getElem?_getD, e0_, e1_, e2_, e3_, e4_, e5_, Try.underlying26]) ?_
            refine rw_on (c := (none : Option Int).isSome) rfl rfl rfl (by first | (rw [hq116]; rfl) | simp [hq116]) ?_
            refine rw_call rfl rfl rfl rfl (f := 22) (args := #[.agg #[.int .i64 n.kind, .int .i64 n.fr, .int .i64 n.tw, .slice A100 n.nums.length c101, .slice A102 n.ops.length c103, .slice A104 n.ents.length c105], .agg #[.int .i64 n.kind, .int .i64 n.fr, .int .i64 n.tw, .slice A3 n.nums.length c3, .slice A4 n.ops.length c4, .slice A5 n.ents.length c5]]) (by simp [go_sem, sEv, sLook, nbeq, i64_w, -List.getD_eq_getElem?_getD]) (same_self w112 n A100 c101 A102 c103 A104 c105 (OwnK.C (d := (Kd.int .i64)) (own_keep (d := (Kd.int .i64)) (OwnK.on (d := (Kd.int .i64)) hO97 hb108) hk109 (by decide) hk113)) (OwnK.cap (d := (Kd.int .i64)) hO97) (by omega) (OwnK.C (d := kOp) (own_keep (d := kOp) (OwnK.on (d := kOp) hO98 hb108) hk109 (by decide) hk113)) (OwnK.cap (d := kOp) hO98) (by omega) (OwnK.C (d := kEntry) (own_keep (d := kEntry) (OwnK.on (d := kEntry) hO99 hb108) hk109 (by decide) hk113)) (OwnK.cap (d := kEntry) hO99) (by omega) A3 c3 A4 c4 A5 c5 (Kd.C_below hn3 (hk113.below (by omega) (chain (chain (chain (chain (chain (chain hb3 hb8) hb10) hb88) hb93) hb96) hb108))) hc3 (by omega) (Kd.C_below hn4 (hk113.below (by omega) (chain (chain (chain (chain (chain (chain hb3 hb8) hb10) hb88) hb93) hb96) hb108))) hc4 (by omega) (Kd.C_below hn5 (hk113.below (by omega) (chain (chain (chain (chain (chain (chain hb3 hb8) hb10) hb88) hb93) hb96) hb108))) hc5 (by omega)) ?_
            rintro e_ w117 ⟨rfl, hb118⟩
            refine ⟨_, rfl, ?_⟩
            have hs_w117 := hb118.size
            refine rw_on (c := (none : Option Int).isSome) rfl rfl rfl (by first | (rw [hq116]; rfl) | simp [hq116]) ?_
            refine rw_val (v := .bool false) (w' := w117) rfl rfl rfl rfl (by simp [go_sem, sEv, sLook, nbeq, i64_w, -List.getD_eq_getElem?_getD]) ?_
            refine rw_val (v := .bool false) (w' := w117) rfl rfl rfl rfl (by first | (simp [go_sem, sEv, sLook, nbeq, i64_w, -List.getD_eq_getElem?_getD, hq116]; done) | (rw [hq116]; simp [go_sem, sEv, sLook, nbeq, i64_w, -List.getD_eq_getElem?_getD]; done) | (simp [go_sem, sEv, sLook, nbeq, i64_w, -List.getD_eq_getElem?_getD] <;> omega) | (simp [go_sem, sEv, sLook, nbeq, i64_w, -List.getD_eq_getElem?_getD]; intro h_; exact absurd (by omega) h_)) ?_
            refine rw_val (v := .bool false) (w' := w117) rfl rfl rfl rfl rfl ?_
            refine rw_on (c := false) rfl rfl rfl rfl ?_
            refine rw_val (v := .agg #[.int .i64 n.kind, .int .i64 n.fr, .int .i64 n.tw, .slice A100 n.nums.length c101, .slice A102 n.ops.length c103, .slice A104 n.ents.length c105]) (w' := w117) rfl rfl rfl rfl (by have eb_ := (hk114.on hb118); have e0_ := eb_.cellv (i := 0) (v := (.int .i64 n.kind : Value)) rfl; have e1_ := eb_.cellv (i := 1) (v := (.int .i64 n.fr : Value)) rfl; have e2_ := eb_.cellv (i := 2) (v := (.int .i64 n.tw : Value)) rfl; have e3_ := eb_.cellv (i := 3) (v := (.slice A100 n.nums.length c101 : Value)) rfl; have e4_ := eb_.cellv (i := 4) (v := (.slice A102 n.ops.length c103 : Value)) rfl; have e5_ := eb_.cellv (i := 5) (v := (.slice A104 n.ents.length c105 : Value)) rfl; simp [go_sem, sEv, sLook, nbeq, i64_w, -List.getD_eq_getElem?_getD, e0_, e1_, e2_, e3_, e4_, e5_, Try.underlying26]) ?_
            refine rw_on (c := false) rfl rfl rfl rfl ?_
            refine rw_val (v := .agg #[.int .i64 n.kind, .int .i64 n.fr, .int .i64 n.tw, .slice A3 n.nums.length c3, .slice A4 n.ops.length c4, .slice A5 n.ents.length c5]) (w' := w117) rfl rfl rfl rfl (by have eb_ := ((((((((hk4.on hb8).on hb10).on hb88).on hb93).on hb96).on hb108).keep hk113 (by omega)).on hb118); have e0_ := eb_.cellv (i := 0) (v := (.int .i64 n.kind : Value)) rfl; have e1_ := eb_.cellv (i := 1) (v := (.int .i64 n.fr : Value)) rfl; have e2_ := eb_.cellv (i := 2) (v := (.int .i64 n.tw : Value)) rfl; have e3_ := eb_.cellv (i := 3) (v := (.slice A3 n.nums.length c3 : Value)) rfl; have e4_ := eb_.cellv (i := 4) (v := (.slice A4 n.ops.length c4 : Value)) rfl; have e5_ := eb_.cellv (i := 5) (v := (.slice A5 n.ents.length c5 : Value)) rfl; simp [go_sem, sEv, sLook, nbeq, i64_w, -List.getD_eq_getElem?_getD, e0_, e1_, e2_, e3_, e4_, e5_, Try.underlying26]) ?_
            refine rw_on (c := false) rfl rfl rfl rfl ?_
            refine rw_call rfl rfl rfl rfl (f := 17) (args := #[.agg #[.int .i64 n.kind, .int .i64 n.fr, .int .i64 n.tw, .slice A100 n.nums.length c101, .slice A102 n.ops.length c103, .slice A104 n.ents.length c105], .agg #[.int .i64 n.kind, .int .i64 n.fr, .int .i64 n.tw, .slice A3 n.nums.length c3, .slice A4 n.ops.length c4, .slice A5 n.ents.length c5]]) (by simp [go_sem, sEv, sLook, nbeq, i64_w, -List.getD_eq_getElem?_getD]) (rsame_self w117 n A100 c101 A102 c103 A104 c105 (OwnK.C (d := (Kd.int .i64)) (OwnK.on (d := (Kd.int .i64)) (own_keep (d := (Kd.int .i64)) (OwnK.on (d := (Kd.int .i64)) hO97 hb108) hk109 (by decide) hk113) hb118)) (OwnK.cap (d := (Kd.int .i64)) hO97) (by omega) (OwnK.C (d := kOp) (OwnK.on (d := kOp) (own_keep (d := kOp) (OwnK.on (d := kOp) hO98 hb108) hk109 (by decide) hk113) hb118)) (OwnK.cap (d := kOp) hO98) (by omega) (OwnK.C (d := kEntry) (OwnK.on (d := kEntry) (own_keep (d := kEntry) (OwnK.on (d := kEntry) hO99 hb108) hk109 (by decide) hk113) hb118)) (OwnK.cap (d := kEntry) hO99) (by omega) A3 c3 A4 c4 A5 c5 (Kd.C_below hn3 (chain (hk113.below (by omega) (chain (chain (chain (chain (chain (chain hb3 hb8) hb10) hb88) hb93) hb96) hb108)) hb118)) hc3 (by omega) (Kd.C_below hn4 (chain (hk113.below (by omega) (chain (chain (chain (chain (chain (chain hb3 hb8) hb10) hb88) hb93) hb96) hb108)) hb118)) hc4 (by omega) (Kd.C_below hn5 (chain (hk113.below (by omega) (chain (chain (chain (chain (chain (chain hb3 hb8) hb10) hb88) hb93) hb96) hb108)) hb118)) hc5 (by omega)) ?_
            rintro e_ w119 ⟨rfl, hb120⟩
            refine ⟨_, rfl, ?_⟩
            have hs_w119 := hb120.size
            refine rw_on (c := false) rfl rfl rfl rfl ?_
            refine rw_val (v := .bool false) (w' := w119) rfl rfl rfl rfl (by simp [go_sem, sEv, sLook, nbeq, i64_w, -List.getD_eq_getElem?_getD]) ?_
            refine rw_val (v := .bool false) (w' := w119) rfl rfl rfl rfl (by simp [go_sem, sEv, sLook, nbeq, i64_w, -List.getD_eq_getElem?_getD]) ?_
            refine rw_end ?_
            refine w_weaken (G' := [(1, .slice A1 b.length c1), (4, .bool false), (52, .bool false)]) ⟨rfl, rfl, rfl, trivial⟩ ?_
            refine w_cond_f rfl rfl rfl ?_
            refine w_skip ?_
            refine w_seq ?_
            refine w_region ?_
            refine rw_val (v := .slice A1 b.length c1) (w' := w119) rfl rfl rfl rfl rfl ?_
            rcases dec_cases b with hD_ | hD_ | ⟨n8, hD_⟩
            · refine rw_call rfl rfl rfl rfl (f := 19) (args := #[.slice A1 b.length c1]) (by simp [go_sem, sEv, sLook, nbeq, i64_w, -List.getD_eq_getElem?_getD]) (dec_none w119 A1 c1 b 3 (Kd.C_below hb1 (chain (chain (hk113.below (by omega) (chain (chain (chain (chain (chain (chain hb3 hb8) hb10) hb88) hb93) hb96) hb108)) hb118) hb120)) hcb hbb (by omega) hD_) ?_
              rintro e_ w121 ⟨A123, c124, A125, c126, A127, c128, rfl, hb122⟩
              refine ⟨_, rfl, ?_⟩
              have hs_w121 := hb122.size
              refine rw_val (v := .tuple #[.agg #[.int .i64 0, .int .i64 0, .int .i64 0, .slice A123 0 c124, .slice A125 0 c126, .slice A127 0 c128], errT (some 3)]) (w' := w121) rfl rfl rfl rfl rfl ?_
              refine rw_val (v := .agg #[.int .i64 0, .int .i64 0, .int .i64 0, .slice A123 0 c124, .slice A125 0 c126, .slice A127 0 c128]) (w' := w121) rfl rfl rfl rfl (by simp [go_sem, sEv, sLook, nbeq, i64_w, -List.getD_eq_getElem?_getD]) ?_
              refine rw_val (v := errT (some 3)) (w' := w121) rfl rfl rfl rfl (by simp [go_sem, sEv, sLook, nbeq, i64_w, -List.getD_eq_getElem?_getD]) ?_
              refine rw_new (cs := #[.int .i64 0, .int .i64 0, .int .i64 0, .slice none 0 0, .slice none 0 0, .slice none 0 0]) (t := 26) (fun g => .pointer (some ⟨g, 0, none⟩)) rfl rfl rfl rfl (by kernel_rfl) ?_
              intro g129 w130 hg134 hz133 hb131 hk132
              have hs_w130 := hb131.size
              have hb138 := hk132
              refine rw_store (g := g129) (i := 0) (l := [.int .i64 0, .int .i64 0, .int .i64 0, .slice A123 0 c124, .slice A125 0 c126, .slice A127 0 c128]) (cs' := #[.int .i64 0, .int .i64 0, .int .i64 0, .slice A123 0 c124, .slice A125 0 c126, .slice A127 0 c128]) rfl rfl rfl hb138 rfl (by have e0_ := hb138.cellv (i := 0) (v := (.int .i64 0 : Value)) rfl; have f0_ := hb138.frozen 0; have e1_ := hb138.cellv (i := 1) (v := (.int .i64 0 : Value)) rfl; have f1_ := hb138.frozen 1; have e2_ := hb138.cellv (i := 2) (v := (.int .i64 0 : Value)) rfl; have f2_ := hb138.frozen 2; have e3_ := hb138.cellv (i := 3) (v := (.slice none 0 0 : Value)) rfl; have f3_ := hb138.frozen 3; have e4_ := hb138.cellv (i := 4) (v := (.slice none 0 0 : Value)) rfl; have f4_ := hb138.frozen 4; have e5_ := hb138.cellv (i := 5) (v := (.slice none 0 0 : Value)) rfl; have f5_ := hb138.frozen 5; simp [go_sem, sEv, sLook, nbeq, i64_w, -List.getD_eq_getElem?_getD, putCells, e0_, f0_, e1_, f1_, e2_, f2_, e3_, f3_, e4_, f4_, e5_, f5_, Try.underlying26]) ?_
              intro w135 hk136 hk137
              have hs_w135 := hk136.size
              refine rw_val (v := errT (some 3)) (w' := w135) rfl rfl rfl rfl rfl ?_
              refine rw_end ?_
              refine w_weaken (G' := [(1, .slice A1 b.length c1), (4, .bool false), (9, .pointer (some ⟨g129, 0, none⟩)), (10, errT (some 3))]) ⟨rfl, rfl, rfl, rfl, trivial⟩ ?_
              refine w_seq ?_
              refine w_seq ?_
              refine w_region ?_
              refine rw_val (v := errT (some 3)) (w' := w135) rfl rfl rfl rfl rfl ?_
              refine rw_val (v := .bool ((some 3).isSome)) (w' := w135) rfl rfl rfl rfl (run_as (guard_err_neq _ (some 3) _)) ?_
              refine rw_end ?_
              have hq139 : ((some 3).isSome) = true := by rfl
              refine w_cond_t rfl rfl hq139 ?_
              refine w_seq ?_
              refine w_region ?_
              refine rw_val (v := errT (some 3)) (w' := w135) rfl rfl rfl rfl rfl ?_
              refine rw_val (v := errT (some 3)) (w' := w135) rfl rfl rfl rfl (by simp [go_sem, sEv, sLook, nbeq, i64_w, -List.getD_eq_getElem?_getD, errT]) ?_
              refine rw_val (v := .bool true) (w' := w135) rfl rfl rfl rfl (run_bool (run_as (guard_err_eql _ _ (some 3) 3 _)) (by decide)) ?_
              refine rw_val (v := .bool true) (w' := w135) rfl rfl rfl rfl rfl ?_
              refine rw_off (c := true) rfl rfl rfl rfl rfl rfl ?_
              refine rw_off (c := true) rfl rfl rfl rfl rfl rfl ?_
              refine rw_off (c := true) rfl rfl rfl rfl rfl rfl ?_
              refine rw_val (v := .bool true) (w' := w135) rfl rfl rfl rfl (by simp [go_sem, sEv, sLook, nbeq, i64_w, -List.getD_eq_getElem?_getD]) ?_
              refine rw_val (v := .bool true) (w' := w135) rfl rfl rfl rfl rfl ?_
              refine rw_end ?_
              refine w_weaken (G' := [(1, .slice A1 b.length c1), (4, .bool true), (9, .pointer (some ⟨g129, 0, none⟩))]) ⟨rfl, rfl, rfl, trivial⟩ ?_
              refine w_ret (post_ret1 rfl rfl ?_)
              exact ⟨by first | rfl | (simp_all; done), (hk136.below (by omega) (chain (chain (chain (chain (hk113.below (by omega) (chain (chain (chain (chain (chain (chain hb3 hb8) hb10) hb88) hb93) hb96) hb108)) hb118) hb120) hb122) hb131))⟩
            · refine rw_call rfl rfl rfl rfl (f := 19) (args := #[.slice A1 b.length c1]) (by simp [go_sem, sEv, sLook, nbeq, i64_w, -List.getD_eq_getElem?_getD]) (dec_none w119 A1 c1 b 4 (Kd.C_below hb1 (chain (chain (hk113.below (by omega) (chain (chain (chain (chain (chain (chain hb3 hb8) hb10) hb88) hb93) hb96) hb108)) hb118) hb120)) hcb hbb (by omega) hD_) ?_
              rintro e_ w140 ⟨A142, c143, A144, c145, A146, c147, rfl, hb141⟩
              refine ⟨_, rfl, ?_⟩
              have hs_w140 := hb141.size
              refine rw_val (v := .tuple #[.agg #[.int .i64 0, .int .i64 0, .int .i64 0, .slice A142 0 c143, .slice A144 0 c145, .slice A146 0 c147], errT (some 4)]) (w' := w140) rfl rfl rfl rfl rfl ?_
              refine rw_val (v := .agg #[.int .i64 0, .int .i64 0, .int .i64 0, .slice A142 0 c143, .slice A144 0 c145, .slice A146 0 c147]) (w' := w140) rfl rfl rfl rfl (by simp [go_sem, sEv, sLook, nbeq, i64_w, -List.getD_eq_getElem?_getD]) ?_
              refine rw_val (v := errT (some 4)) (w' := w140) rfl rfl rfl rfl (by simp [go_sem, sEv, sLook, nbeq, i64_w, -List.getD_eq_getElem?_getD]) ?_
              refine rw_new (cs := #[.int .i64 0, .int .i64 0, .int .i64 0, .slice none 0 0, .slice none 0 0, .slice none 0 0]) (t := 26) (fun g => .pointer (some ⟨g, 0, none⟩)) rfl rfl rfl rfl (by kernel_rfl) ?_
              intro g148 w149 hg153 hz152 hb150 hk151
              have hs_w149 := hb150.size
              have hb157 := hk151
              refine rw_store (g := g148) (i := 0) (l := [.int .i64 0, .int .i64 0, .int .i64 0, .slice A142 0 c143, .slice A144 0 c145, .slice A146 0 c147]) (cs' := #[.int .i64 0, .int .i64 0, .int .i64 0, .slice A142 0 c143, .slice A144 0 c145, .slice A146 0 c147]) rfl rfl rfl hb157 rfl (by have e0_ := hb157.cellv (i := 0) (v := (.int .i64 0 : Value)) rfl; have f0_ := hb157.frozen 0; have e1_ := hb157.cellv (i := 1) (v := (.int .i64 0 : Value)) rfl; have f1_ := hb157.frozen 1; have e2_ := hb157.cellv (i := 2) (v := (.int .i64 0 : Value)) rfl; have f2_ := hb157.frozen 2; have e3_ := hb157.cellv (i := 3) (v := (.slice none 0 0 : Value)) rfl; have f3_ := hb157.frozen 3; have e4_ := hb157.cellv (i := 4) (v := (.slice none 0 0 : Value)) rfl; have f4_ := hb157.frozen 4; have e5_ := hb157.cellv (i := 5) (v := (.slice none 0 0 : Value)) rfl; have f5_ := hb157.frozen 5; simp [go_sem, sEv, sLook, nbeq, i64_w, -List.getD_eq_getElem?_getD, putCells, e0_, f0_, e1_, f1_, e2_, f2_, e3_, f3_, e4_, f4_, e5_, f5_, Try.underlying26]) ?_
              intro w154 hk155 hk156
              have hs_w154 := hk155.size
              refine rw_val (v := errT (some 4)) (w' := w154) rfl rfl rfl rfl rfl ?_
              refine rw_end ?_
              refine w_weaken (G' := [(1, .slice A1 b.length c1), (4, .bool false), (9, .pointer (some ⟨g148, 0, none⟩)), (10, errT (some 4))]) ⟨rfl, rfl, rfl, rfl, trivial⟩ ?_
              refine w_seq ?_
              refine w_seq ?_
              refine w_region ?_
              refine rw_val (v := errT (some 4)) (w' := w154) rfl rfl rfl rfl rfl ?_
              refine rw_val (v := .bool ((some 4).isSome)) (w' := w154) rfl rfl rfl rfl (run_as (guard_err_neq _ (some 4) _)) ?_
              refine rw_end ?_
              have hq158 : ((some 4).isSome) = true := by rfl
              refine w_cond_t rfl rfl hq158 ?_
              refine w_seq ?_
              refine w_region ?_
              refine rw_val (v := errT (some 4)) (w' := w154) rfl rfl rfl rfl rfl ?_
              refine rw_val (v := errT (some 3)) (w' := w154) rfl rfl rfl rfl (by simp [go_sem, sEv, sLook, nbeq, i64_w, -List.getD_eq_getElem?_getD, errT]) ?_
              refine rw_val (v := .bool false) (w' := w154) rfl rfl rfl rfl (run_bool (run_as (guard_err_eql _ _ (some 4) 3 _)) (by decide)) ?_
              refine rw_val (v := .bool false) (w' := w154) rfl rfl rfl rfl rfl ?_
              refine rw_on (c := false) rfl rfl rfl rfl ?_
              refine rw_val (v := errT (some 4)) (w' := w154) rfl rfl rfl rfl rfl ?_
              refine rw_on (c := false) rfl rfl rfl rfl ?_
              refine rw_val (v := errT (some 4)) (w' := w154) rfl rfl rfl rfl (by simp [go_sem, sEv, sLook, nbeq, i64_w, -List.getD_eq_getElem?_getD, errT]) ?_
              refine rw_on (c := false) rfl rfl rfl rfl ?_
              refine rw_val (v := .bool true) (w' := w154) rfl rfl rfl rfl (run_bool (run_as (guard_err_eql _ _ (some 4) 4 _)) (by decide)) ?_
              refine rw_val (v := .bool true) (w' := w154) rfl rfl rfl rfl (by simp [go_sem, sEv, sLook, nbeq, i64_w, -List.getD_eq_getElem?_getD]) ?_
              refine rw_val (v := .bool true) (w' := w154) rfl rfl rfl rfl rfl ?_
              refine rw_end ?_
              refine w_weaken (G' := [(1, .slice A1 b.length c1), (4, .bool true), (9, .pointer (some ⟨g148, 0, none⟩))]) ⟨rfl, rfl, rfl, trivial⟩ ?_
              refine w_ret (post_ret1 rfl rfl ?_)
              exact ⟨by first | rfl | (simp_all; done), (hk155.below (by omega) (chain (chain (chain (chain (hk113.below (by omega) (chain (chain (chain (chain (chain (chain hb3 hb8) hb10) hb88) hb93) hb96) hb108)) hb118) hb120) hb141) hb150))⟩
            · have hI8_ := dec_I hbb hD_
              have hE8_ := enc_dec hbb hD_
              obtain ⟨hz3_, hz4_, hz5_⟩ := good_sz hE8_.1
              refine rw_call rfl rfl rfl rfl (f := 19) (args := #[.slice A1 b.length c1]) (by simp [go_sem, sEv, sLook, nbeq, i64_w, -List.getD_eq_getElem?_getD]) (dec_some w119 A1 c1 b n8 (Kd.C_below hb1 (chain (chain (hk113.below (by omega) (chain (chain (chain (chain (chain (chain hb3 hb8) hb10) hb88) hb93) hb96) hb108)) hb118) hb120)) hcb hbb (by omega) hD_) ?_
              rintro e_ w159 ⟨A164, c165, A166, c167, A168, c169, rfl, hO1610, hO1620, hO1630, hb160⟩
              refine ⟨_, rfl, ?_⟩
              have hs_w159 := hb160.size
              have hO161 := OwnK.lower (base' := w.heap.size) (d := (Kd.int .i64)) hO1610 (by omega)
              have hO162 := OwnK.lower (base' := w.heap.size) (d := kOp) hO1620 (by omega)
              have hO163 := OwnK.lower (base' := w.heap.size) (d := kEntry) hO1630 (by omega)
              refine rw_val (v := .tuple #[.agg #[.int .i64 n8.kind, .int .i64 n8.fr, .int .i64 n8.tw, .slice A164 n8.nums.length c165, .slice A166 n8.ops.length c167, .slice A168 n8.ents.length c169], .nilIface]) (w' := w159) rfl rfl rfl rfl rfl ?_
              refine rw_val (v := .agg #[.int .i64 n8.kind, .int .i64 n8.fr, .int .i64 n8.tw, .slice A164 n8.nums.length c165, .slice A166 n8.ops.length c167, .slice A168 n8.ents.length c169]) (w' := w159) rfl rfl rfl rfl (by simp [go_sem, sEv, sLook, nbeq, i64_w, -List.getD_eq_getElem?_getD]) ?_
              refine rw_val (v := .nilIface) (w' := w159) rfl rfl rfl rfl (by simp [go_sem, sEv, sLook, nbeq, i64_w, -List.getD_eq_getElem?_getD]) ?_
              refine rw_new (cs := #[.int .i64 0, .int .i64 0, .int .i64 0, .slice none 0 0, .slice none 0 0, .slice none 0 0]) (t := 26) (fun g => .pointer (some ⟨g, 0, none⟩)) rfl rfl rfl rfl (by kernel_rfl) ?_
              intro g170 w171 hg175 hz174 hb172 hk173
              have hs_w171 := hb172.size
              have hb179 := hk173
              refine rw_store (g := g170) (i := 0) (l := [.int .i64 n8.kind, .int .i64 n8.fr, .int .i64 n8.tw, .slice A164 n8.nums.length c165, .slice A166 n8.ops.length c167, .slice A168 n8.ents.length c169]) (cs' := #[.int .i64 n8.kind, .int .i64 n8.fr, .int .i64 n8.tw, .slice A164 n8.nums.length c165, .slice A166 n8.ops.length c167, .slice A168 n8.ents.length c169]) rfl rfl rfl hb179 rfl (by have e0_ := hb179.cellv (i := 0) (v := (.int .i64 0 : Value)) rfl; have f0_ := hb179.frozen 0; have e1_ := hb179.cellv (i := 1) (v := (.int .i64 0 : Value)) rfl; have f1_ := hb179.frozen 1; have e2_ := hb179.cellv (i := 2) (v := (.int .i64 0 : Value)) rfl; have f2_ := hb179.frozen 2; have e3_ := hb179.cellv (i := 3) (v := (.slice none 0 0 : Value)) rfl; have f3_ := hb179.frozen 3; have e4_ := hb179.cellv (i := 4) (v := (.slice none 0 0 : Value)) rfl; have f4_ := hb179.frozen 4; have e5_ := hb179.cellv (i := 5) (v := (.slice none 0 0 : Value)) rfl; have f5_ := hb179.frozen 5; simp [go_sem, sEv, sLook, nbeq, i64_w, -List.getD_eq_getElem?_getD, putCells, e0_, f0_, e1_, f1_, e2_, f2_, e3_, f3_, e4_, f4_, e5_, f5_, Try.underlying26]) ?_
              intro w176 hk177 hk178
              have hs_w176 := hk177.size
              refine rw_val (v := .nilIface) (w' := w176) rfl rfl rfl rfl rfl ?_
              refine rw_end ?_
              refine w_weaken (G' := [(1, .slice A1 b.length c1), (4, .bool false), (9, .pointer (some ⟨g170, 0, none⟩)), (10, .nilIface)]) ⟨rfl, rfl, rfl, rfl, trivial⟩ ?_
              refine w_seq ?_
              refine w_seq ?_
              refine w_region ?_
              refine rw_val (v := .nilIface) (w' := w176) rfl rfl rfl rfl rfl ?_
              refine rw_val (v := .bool ((none : Option Int).isSome)) (w' := w176) rfl rfl rfl rfl (run_as (guard_err_neq _ (none : Option Int) _)) ?_
              refine rw_end ?_
              refine w_cond_f rfl rfl hq116 ?_
              refine w_skip ?_
              refine w_seq ?_
              refine w_region ?_
              refine rw_val (v := .agg #[.int .i64 n8.kind, .int .i64 n8.fr, .int .i64 n8.tw, .slice A164 n8.nums.length c165, .slice A166 n8.ops.length c167, .slice A168 n8.ents.length c169]) (w' := w176) rfl rfl rfl rfl (by have eb_ := hk178; have e0_ := eb_.cellv (i := 0) (v := (.int .i64 n8.kind : Value)) rfl; have e1_ := eb_.cellv (i := 1) (v := (.int .i64 n8.fr : Value)) rfl; have e2_ := eb_.cellv (i := 2) (v := (.int .i64 n8.tw : Value)) rfl; have e3_ := eb_.cellv (i := 3) (v := (.slice A164 n8.nums.length c165 : Value)) rfl; have e4_ := eb_.cellv (i := 4) (v := (.slice A166 n8.ops.length c167 : Value)) rfl; have e5_ := eb_.cellv (i := 5) (v := (.slice A168 n8.ents.length c169 : Value)) rfl; simp [go_sem, sEv, sLook, nbeq, i64_w, -List.getD_eq_getElem?_getD, e0_, e1_, e2_, e3_, e4_, e5_, Try.underlying26]) ?_
              · refine rw_call rfl rfl rfl rfl (f := 12) (args := #[.agg #[.int .i64 n8.kind, .int .i64 n8.fr, .int .i64 n8.tw, .slice A164 n8.nums.length c165, .slice A166 n8.ops.length c167, .slice A168 n8.ents.length c169]]) (by simp [go_sem, sEv, sLook, nbeq, i64_w, -List.getD_eq_getElem?_getD]) (enc_good w176 n8 A164 c165 A166 c167 A168 c169 (OwnK.C (d := (Kd.int .i64)) (own_keep (d := (Kd.int .i64)) (OwnK.on (d := (Kd.int .i64)) hO161 hb172) hk173 (by decide) hk177)) (OwnK.cap (d := (Kd.int .i64)) hO161) (OwnK.C (d := kOp) (own_keep (d := kOp) (OwnK.on (d := kOp) hO162 hb172) hk173 (by decide) hk177)) (OwnK.cap (d := kOp) hO162) (OwnK.C (d := kEntry) (own_keep (d := kEntry) (OwnK.on (d := kEntry) hO163 hb172) hk173 (by decide) hk177)) (OwnK.cap (d := kEntry) hO163) (by omega) (by omega) (by omega) hI8_ hE8_.1 hE8_.2) ?_
                rintro e_ w180 ⟨A182, c183, rfl, hO1840, hb181⟩
                refine ⟨_, rfl, ?_⟩
                have hs_w180 := hb181.size
                have hO184 := OwnK.lower (base' := w.heap.size) (d := (Kd.int .u8)) hO1840 (by omega)
                refine rw_val (v := .tuple #[.slice A182 b.length c183, .nilIface]) (w' := w180) rfl rfl rfl rfl rfl ?_
                refine rw_val (v := .slice A182 b.length c183) (w' := w180) rfl rfl rfl rfl (by simp [go_sem, sEv, sLook, nbeq, i64_w, -List.getD_eq_getElem?_getD]) ?_
                refine rw_val (v := .nilIface) (w' := w180) rfl rfl rfl rfl (by simp [go_sem, sEv, sLook, nbeq, i64_w, -List.getD_eq_getElem?_getD]) ?_
                refine rw_val (v := .slice A182 b.length c183) (w' := w180) rfl rfl rfl rfl rfl ?_
                refine rw_val (v := .nilIface) (w' := w180) rfl rfl rfl rfl rfl ?_
                refine rw_end ?_
                refine w_weaken (G' := [(1, .slice A1 b.length c1), (4, .bool false), (11, .slice A182 b.length c183), (12, .nilIface)]) ⟨rfl, rfl, rfl, rfl, trivial⟩ ?_
                refine w_seq ?_
                refine w_region ?_
                refine rw_val (v := .nilIface) (w' := w180) rfl rfl rfl rfl rfl ?_
                refine rw_val (v := .bool ((none : Option Int).isNone)) (w' := w180) rfl rfl rfl rfl (run_as (guard_err_eq0 _ (none : Option Int) _)) ?_
                refine rw_val (v := .bool ((none : Option Int).isNone)) (w' := w180) rfl rfl rfl rfl rfl ?_
                refine rw_on (c := (none : Option Int).isNone) rfl rfl rfl (by first | (rw [hq94]; rfl) | simp [hq94]) ?_
                refine rw_val (v := .slice A182 b.length c183) (w' := w180) rfl rfl rfl rfl rfl ?_
                refine rw_on (c := (none : Option Int).isNone) rfl rfl rfl (by first | (rw [hq94]; rfl) | simp [hq94]) ?_
                refine rw_val (v := .string (strOfNums b)) (w' := w180) rfl rfl rfl rfl (run_as (run_str_of (P := Try.prog) (e := 5) (by kernel_rfl) (by kernel_rfl) (by kernel_rfl) (OwnK.C (d := (Kd.int .u8)) hO184))) ?_
                refine rw_on (c := (none : Option Int).isNone) rfl rfl rfl (by first | (rw [hq94]; rfl) | simp [hq94]) ?_
                refine rw_val (v := .slice A1 b.length c1) (w' := w180) rfl rfl rfl rfl rfl ?_
                refine rw_on (c := (none : Option Int).isNone) rfl rfl rfl (by first | (rw [hq94]; rfl) | simp [hq94]) ?_
                refine rw_val (v := .string (strOfNums b)) (w' := w180) rfl rfl rfl rfl (run_as (run_str_of (P := Try.prog) (e := 5) (by kernel_rfl) (by kernel_rfl) (by kernel_rfl) (Kd.C_below hb1 (chain (hk177.below (by omega) (chain (chain (chain (chain (hk113.below (by omega) (chain (chain (chain (chain (chain (chain hb3 hb8) hb10) hb88) hb93) hb96) hb108)) hb118) hb120) hb160) hb172)) hb181)))) ?_
                refine rw_on (c := (none : Option Int).isNone) rfl rfl rfl (by first | (rw [hq94]; rfl) | simp [hq94]) ?_
                refine rw_val (v := .bool true) (w' := w180) rfl rfl rfl rfl (run_bool (run_as (run_str_eql 9 _ _ _)) (by simp)) ?_
                refine rw_val (v := .bool true) (w' := w180) rfl rfl rfl rfl (by first | (simp [go_sem, sEv, sLook, nbeq, i64_w, -List.getD_eq_getElem?_getD, hq94]; done) | (rw [hq94]; simp [go_sem, sEv, sLook, nbeq, i64_w, -List.getD_eq_getElem?_getD]; done) | (simp [go_sem, sEv, sLook, nbeq, i64_w, -List.getD_eq_getElem?_getD] <;> omega) | (simp [go_sem, sEv, sLook, nbeq, i64_w, -List.getD_eq_getElem?_getD]; intro h_; exact absurd (by omega) h_)) ?_
                refine rw_val (v := .bool true) (w' := w180) rfl rfl rfl rfl rfl ?_
                refine rw_end ?_
                refine w_weaken (G' := [(4, .bool true)]) ⟨rfl, trivial⟩ ?_
                refine w_ret (post_ret1 rfl rfl ?_)
                exact ⟨by first | rfl | (simp_all; done), (chain (hk177.below (by omega) (chain (chain (chain (chain (hk113.below (by omega) (chain (chain (chain (chain (chain (chain hb3 hb8) hb10) hb88) hb93) hb96) hb108)) hb118) hb120) hb160) hb172)) hb181)⟩
  · have l185 : (500 < n.nums.length + n.ops.length + n.ents.length) := of_decide_eq_true cG
    refine rw_off (c := decide (500 < n.nums.length + n.ops.length + n.ents.length)) rfl rfl rfl (by first | (rw [cG]; rfl) | simp [cG]) rfl rfl ?_
    refine rw_off (c := decide (500 < n.nums.length + n.ops.length + n.ents.length)) rfl rfl rfl (by first | (rw [cG]; rfl) | simp [cG]) rfl rfl ?_
    refine rw_off (c := decide (500 < n.nums.length + n.ops.length + n.ents.length)) rfl rfl rfl (by first | (rw [cG]; rfl) | simp [cG]) rfl rfl ?_
    refine rw_val (v := .bool true) (w' := w9) rfl rfl rfl rfl (by first | (simp [go_sem, sEv, sLook, nbeq, i64_w, -List.getD_eq_getElem?_getD, cG]; done) | (rw [cG]; simp [go_sem, sEv, sLook, nbeq, i64_w, -List.getD_eq_getElem?_getD]; done) | (simp [go_sem, sEv, sLook, nbeq, i64_w, -List.getD_eq_getElem?_getD] <;> omega) | (simp [go_sem, sEv, sLook, nbeq, i64_w, -List.getD_eq_getElem?_getD]; intro h_; exact absurd (by omega) h_)) ?_
    refine rw_end ?_
    refine w_weaken (G' := [(1, .slice A1 b.length c1), (2, .pointer (some ⟨g1, 0, none⟩)), (4, .bool false), (21, .bool true)]) ⟨rfl, rfl, rfl, rfl, trivial⟩ ?_
    refine w_cond_t rfl rfl rfl ?_
    refine w_seq ?_
    refine w_region ?_
    refine rw_val (v := .bool true) (w' := w9) rfl rfl rfl rfl rfl ?_
    refine rw_end ?_
    refine w_ret (post_ret1 rfl rfl ?_)
    exact ⟨by first | rfl | (simp_all; done), (chain (chain hb3 hb8) hb10)⟩
end Go.Proofs.Ytbbhdohjhipalaa.Ce
end
