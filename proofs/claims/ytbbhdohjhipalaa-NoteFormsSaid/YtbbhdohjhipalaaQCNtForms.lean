/- A law's own walk: NtForms. -/
import Derived.Test.YtbbhdohjhipalaaQC6
section
namespace Go.Proofs.Ytbbhdohjhipalaa.Ce
open Go.RowKit Go.Proofs.YtbbhdohjhipalaaW.PrintWords Go.Proofs.YtbbhdohjhipalaaW.PrintLast Go.Proofs.YtbbhdohjhipalaaW.PrintMore
open Go.Proofs.Ytbbhdohjhipalaa.Flow
open Go.Proofs.Ytbbhdohjhipalaa.PNoteReads
set_option linter.unusedVariables false
set_option linter.unusedSimpArgs false
theorem enc_x (w : World) (n : NT) (A3 : Option Addr) (c3 : Nat) (A4 : Option Addr) (c4 : Nat) (A5 : Option Addr) (c5 : Nat) (hn3 : (Kd.int .i64).C w A3 n.nums.length n.nums) (hc3 : n.nums.length ≤ c3) (hn4 : kOp.C w A4 n.ops.length n.ops) (hc4 : n.ops.length ≤ c4) (hn5 : kEntry.C w A5 n.ents.length n.ents) (hc5 : n.ents.length ≤ c5) (hk3 : n.nums.length ≤ 140737488355328) (hk4 : n.ops.length ≤ 140737488355328) (hk5 : n.ents.length ≤ 140737488355328) (hI : ∀ y ∈ listN n, I64 y) {o : Option Int} (he : EE n = o) : Calls Try.prog 12 #[.agg #[.int .i64 n.kind, .int .i64 n.fr, .int .i64 n.tw, .slice A3 n.nums.length c3, .slice A4 n.ops.length c4, .slice A5 n.ents.length c5]] w fun e w' => ∃ A' c', e = .returned (.tuple #[.slice A' (EB n).length c', errT o]) ∧ OwnK (Kd.int .u8) 5 w' w.heap.size w.heap.size A' (EB n).length c' (EB n) ∧ Below w.heap.size w w' := by
  subst he
  exact enc_calls w n A3 c3 A4 c4 A5 c5 hn3 hc3 hn4 hc4 hn5 hc5 hk3 hk4 hk5 hI
theorem renc_x (w : World) (n : NT) (A3 : Option Addr) (c3 : Nat) (A4 : Option Addr) (c4 : Nat) (A5 : Option Addr) (c5 : Nat) (hn3 : (Kd.int .i64).C w A3 n.nums.length n.nums) (hc3 : n.nums.length ≤ c3) (hn4 : kOp.C w A4 n.ops.length n.ops) (hc4 : n.ops.length ≤ c4) (hn5 : kEntry.C w A5 n.ents.length n.ents) (hc5 : n.ents.length ≤ c5) (hk3 : n.nums.length ≤ 140737488355328) (hk4 : n.ops.length ≤ 140737488355328) (hk5 : n.ents.length ≤ 140737488355328) (hI : ∀ y ∈ listN n, I64 y) {z : Int} (he : EN n = z) : Calls Try.prog 13 #[.agg #[.int .i64 n.kind, .int .i64 n.fr, .int .i64 n.tw, .slice A3 n.nums.length c3, .slice A4 n.ops.length c4, .slice A5 n.ents.length c5]] w fun e w' => ∃ A' c', e = .returned (.tuple #[.slice A' (EB n).length c', .int .i64 z]) ∧ OwnK (Kd.int .u8) 5 w' w.heap.size w.heap.size A' (EB n).length c' (EB n) ∧ Below w.heap.size w w' := by
  subst he
  exact renc_calls w n A3 c3 A4 c4 A5 c5 hn3 hc3 hn4 hc4 hn5 hc5 hk3 hk4 hk5 hI
theorem good_x (w : World) (n : NT) (A3 : Option Addr) (c3 : Nat) (A4 : Option Addr) (c4 : Nat) (A5 : Option Addr) (c5 : Nat) (hn3 : (Kd.int .i64).C w A3 n.nums.length n.nums) (hc3 : n.nums.length ≤ c3) (hn4 : kOp.C w A4 n.ops.length n.ops) (hc4 : n.ops.length ≤ c4) (hn5 : kEntry.C w A5 n.ents.length n.ents) (hc5 : n.ents.length ≤ c5) (hk3 : n.nums.length ≤ 140737488355328) (hk4 : n.ops.length ≤ 140737488355328) (hk5 : n.ents.length ≤ 140737488355328) {b : Bool} (hg : goodN n = b) : Calls Try.prog 16 #[.agg #[.int .i64 n.kind, .int .i64 n.fr, .int .i64 n.tw, .slice A3 n.nums.length c3, .slice A4 n.ops.length c4, .slice A5 n.ents.length c5]] w fun e w' => e = .returned (.bool b) ∧ Below w.heap.size w w' := by
  subst hg
  exact good_calls w n A3 c3 A4 c4 A5 c5 hn3 hc3 hn4 hc4 hn5 hc5 hk3 hk4 hk5
theorem num_x (w : World) (o : Option Int) (z : Int) (h : (o = none ∧ z = 0) ∨ (o = some 2 ∧ z = 2)) : Calls Try.prog 14 #[errT o] w fun e w' => e = .returned (.int .i64 z) ∧ Below w.heap.size w w' := by
  rw [← err_same o]
  refine (estuarynum_Num.calls o z w ?_).mono ?_
  · rcases h with ⟨rfl, rfl⟩ | ⟨rfl, rfl⟩ <;> rfl
  · rintro e w' ⟨rfl, h⟩
    exact ⟨rfl, h.below⟩
theorem en_ok {n : NT} (hg : goodN n = true) (hI : ∀ y ∈ listN n, I64 y) : EN n = 0 := by
  have h := good_bytes hg hI
  rw [(en_yes hg).2]
  unfold PNoteReads.errN
  rw [if_neg (by omega)]
set_option maxHeartbeats 4000000 in
theorem forms_calls (w : World) (n : NT) (A3 : Option Addr) (c3 : Nat) (A4 : Option Addr) (c4 : Nat) (A5 : Option Addr) (c5 : Nat) (hn3 : (Kd.int .i64).C w A3 n.nums.length n.nums) (hc3 : n.nums.length ≤ c3) (hn4 : kOp.C w A4 n.ops.length n.ops) (hc4 : n.ops.length ≤ c4) (hn5 : kEntry.C w A5 n.ents.length n.ents) (hc5 : n.ents.length ≤ c5) (hk3 : n.nums.length ≤ 140737488355328) (hk4 : n.ops.length ≤ 140737488355328) (hk5 : n.ents.length ≤ 140737488355328) (hNI : NoteI n) :
    Calls Try.prog 3 #[.agg #[.int .i64 n.kind, .int .i64 n.fr, .int .i64 n.tw, .slice A3 n.nums.length c3, .slice A4 n.ops.length c4, .slice A5 n.ents.length c5]] w fun e w' => e = .returned (.bool true) ∧ Below w.heap.size w w' := by
  refine calls_flow Try.func3 rfl 63 rfl (Nat.le_of_ble_eq_true rfl) [(0, .agg #[.int .i64 n.kind, .int .i64 n.fr, .int .i64 n.tw, .slice A3 n.nums.length c3, .slice A4 n.ops.length c4, .slice A5 n.ents.length c5])] ?_ ?_
  · intro t v h; exact args_look rfl t v h
  refine wsr ?_
  refine rw_new (cs := #[.int .i64 n.kind, .int .i64 n.fr, .int .i64 n.tw, .slice A3 n.nums.length c3, .slice A4 n.ops.length c4, .slice A5 n.ents.length c5]) (t := 26) (fun g => .pointer (some ⟨g, 0, none⟩)) rfl rfl rfl rfl (by simp [go_sem, sEv, sLook, nbeq, i64_w, -List.getD_eq_getElem?_getD]) ?_
  intro g1 w2 hg6 hz5 hb3 hk4
  have hs_w2 := hb3.size
  refine rv (.bool false) ?_
  refine rw_end ?_
  refine w_seq ?_
  refine wsr ?_
  refine rw_call rfl rfl rfl rfl (f := 9) (args := #[]) (by simp [go_sem, sEv, sLook, nbeq, i64_w, -List.getD_eq_getElem?_getD]) (alive_calls w2) ?_
  rintro e_ w7 ⟨rfl, hb8⟩
  refine ⟨_, rfl, ?_⟩
  have hs_w7 := hb8.size
  refine rs (.bool false) ?_
  refine rw_end ?_
  refine w_cond_f rfl rfl rfl ?_
  refine w_skip ?_
  refine w_seq ?_
  refine wsr ?_
  refine rz (.agg #[.int .i64 n.kind, .int .i64 n.fr, .int .i64 n.tw, .slice A3 n.nums.length c3, .slice A4 n.ops.length c4, .slice A5 n.ents.length c5]) (by have eb_ := (hk4.on hb8); have e0_ := eb_.cellv (i := 0) (v := (.int .i64 n.kind : Value)) rfl; have e1_ := eb_.cellv (i := 1) (v := (.int .i64 n.fr : Value)) rfl; have e2_ := eb_.cellv (i := 2) (v := (.int .i64 n.tw : Value)) rfl; have e3_ := eb_.cellv (i := 3) (v := (.slice A3 n.nums.length c3 : Value)) rfl; have e4_ := eb_.cellv (i := 4) (v := (.slice A4 n.ops.length c4 : Value)) rfl; have e5_ := eb_.cellv (i := 5) (v := (.slice A5 n.ents.length c5 : Value)) rfl; simp [go_sem, sEv, sLook, nbeq, i64_w, -List.getD_eq_getElem?_getD, e0_, e1_, e2_, e3_, e4_, e5_, Try.underlying26]) ?_
  refine rw_call rfl rfl rfl rfl (f := 10) (args := #[.agg #[.int .i64 n.kind, .int .i64 n.fr, .int .i64 n.tw, .slice A3 n.nums.length c3, .slice A4 n.ops.length c4, .slice A5 n.ents.length c5]]) (by simp [go_sem, sEv, sLook, nbeq, i64_w, -List.getD_eq_getElem?_getD]) (large_calls w7 n A3 c3 A4 c4 A5 c5 (Kd.C_below hn3 (chain hb3 hb8)) hc3 (Kd.C_below hn4 (chain hb3 hb8)) hc4 (Kd.C_below hn5 (chain hb3 hb8)) hc5 (by omega) (by omega) (by omega)) ?_
  rintro e_ w9 ⟨rfl, hb10⟩
  refine ⟨_, rfl, ?_⟩
  have hs_w9 := hb10.size
  refine rw_end ?_
  refine w_cond rfl rfl (fun cG => ?_) (fun cG => ?_)
  · have l11 : (500 < n.nums.length + n.ops.length + n.ents.length) := of_decide_eq_true cG
    refine wsr ?_
    refine rv (.bool true) ?_
    refine rw_end ?_
    refine w_ret (post_ret1 rfl rfl ?_)
    exact ⟨by first | rfl | (simp []; done) | (simp_all; done), (chain (chain hb3 hb8) hb10)⟩
  · have l12 : ¬ (500 < n.nums.length + n.ops.length + n.ents.length) := of_decide_eq_false cG
    refine w_skip ?_
    refine wsr ?_
    refine rz (.agg #[.int .i64 n.kind, .int .i64 n.fr, .int .i64 n.tw, .slice A3 n.nums.length c3, .slice A4 n.ops.length c4, .slice A5 n.ents.length c5]) (by have eb_ := ((hk4.on hb8).on hb10); have e0_ := eb_.cellv (i := 0) (v := (.int .i64 n.kind : Value)) rfl; have e1_ := eb_.cellv (i := 1) (v := (.int .i64 n.fr : Value)) rfl; have e2_ := eb_.cellv (i := 2) (v := (.int .i64 n.tw : Value)) rfl; have e3_ := eb_.cellv (i := 3) (v := (.slice A3 n.nums.length c3 : Value)) rfl; have e4_ := eb_.cellv (i := 4) (v := (.slice A4 n.ops.length c4 : Value)) rfl; have e5_ := eb_.cellv (i := 5) (v := (.slice A5 n.ents.length c5 : Value)) rfl; simp [go_sem, sEv, sLook, nbeq, i64_w, -List.getD_eq_getElem?_getD, e0_, e1_, e2_, e3_, e4_, e5_, Try.underlying26]) ?_
    have hq3_ : n.nums.length * 8 ≤ 140737488351232 := Nat.le_trans (Nat.mul_le_mul_right 8 (show n.nums.length ≤ 500 by omega)) (by decide)
    have hq4_ : n.ops.length * 40 ≤ 140737488351232 := Nat.le_trans (Nat.mul_le_mul_right 40 (show n.ops.length ≤ 500 by omega)) (by decide)
    have hq5_ : n.ents.length * 608 ≤ 140737488351232 := Nat.le_trans (Nat.mul_le_mul_right 608 (show n.ents.length ≤ 500 by omega)) (by decide)
    refine rw_call rfl rfl rfl rfl (f := 11) (args := #[.agg #[.int .i64 n.kind, .int .i64 n.fr, .int .i64 n.tw, .slice A3 n.nums.length c3, .slice A4 n.ops.length c4, .slice A5 n.ents.length c5]]) (by simp [go_sem, sEv, sLook, nbeq, i64_w, -List.getD_eq_getElem?_getD]) (copied_calls w9 n A3 c3 A4 c4 A5 c5 (Kd.C_below hn3 (chain (chain hb3 hb8) hb10)) hc3 (Kd.C_below hn4 (chain (chain hb3 hb8) hb10)) hc4 (Kd.C_below hn5 (chain (chain hb3 hb8) hb10)) hc5 hq3_ hq4_ hq5_) ?_
    rintro e_ w22 ⟨A16, c17, A18, c19, A20, c21, rfl, hO130, hO140, hO150, hb23⟩
    refine ⟨_, rfl, ?_⟩
    have hs_w22 := hb23.size
    have hfl_hO13 : (n.nums ++ [(-77)]).length = n.nums.length + 1 := by simp
    have hO13 := OwnK.lower (base' := w.heap.size) (d := (Kd.int .i64)) hO130 (by omega)
    have hO14 := OwnK.lower (base' := w.heap.size) (d := kOp) hO140 (by omega)
    have hO15 := OwnK.lower (base' := w.heap.size) (d := kEntry) hO150 (by omega)
    refine rw_new (cs := #[.int .i64 0, .int .i64 0, .int .i64 0, .slice none 0 0, .slice none 0 0, .slice none 0 0]) (t := 26) (fun g => .pointer (some ⟨g, 0, none⟩)) rfl rfl rfl rfl (by kernel_rfl) ?_
    intro g24 w25 hg29 hz28 hb26 hk27
    have hs_w25 := hb26.size
    have hb33 := hk27
    refine rw_store (g := g24) (i := 0) (l := [.int .i64 n.kind, .int .i64 n.fr, .int .i64 n.tw, .slice A16 n.nums.length c17, .slice A18 n.ops.length c19, .slice A20 n.ents.length c21]) (cs' := #[.int .i64 n.kind, .int .i64 n.fr, .int .i64 n.tw, .slice A16 n.nums.length c17, .slice A18 n.ops.length c19, .slice A20 n.ents.length c21]) rfl rfl rfl hb33 rfl (by have e0_ := hb33.cellv (i := 0) (v := (.int .i64 0 : Value)) rfl; have f0_ := hb33.frozen 0; have e1_ := hb33.cellv (i := 1) (v := (.int .i64 0 : Value)) rfl; have f1_ := hb33.frozen 1; have e2_ := hb33.cellv (i := 2) (v := (.int .i64 0 : Value)) rfl; have f2_ := hb33.frozen 2; have e3_ := hb33.cellv (i := 3) (v := (.slice none 0 0 : Value)) rfl; have f3_ := hb33.frozen 3; have e4_ := hb33.cellv (i := 4) (v := (.slice none 0 0 : Value)) rfl; have f4_ := hb33.frozen 4; have e5_ := hb33.cellv (i := 5) (v := (.slice none 0 0 : Value)) rfl; have f5_ := hb33.frozen 5; simp [go_sem, sEv, sLook, nbeq, i64_w, -List.getD_eq_getElem?_getD, putCells, e0_, f0_, e1_, f1_, e2_, f2_, e3_, f3_, e4_, f4_, e5_, f5_, Try.underlying26]) ?_
    intro w30 hk31 hk32
    have hs_w30 := hk31.size
    refine rw_end ?_
    refine w_weaken (G' := [(1, .pointer (some ⟨g1, 0, none⟩)), (2, .bool false), (3, .pointer (some ⟨g24, 0, none⟩))]) ⟨rfl, rfl, rfl, trivial⟩ ?_
    refine wsr ?_
    refine rz (.agg #[.int .i64 n.kind, .int .i64 n.fr, .int .i64 n.tw, .slice A16 n.nums.length c17, .slice A18 n.ops.length c19, .slice A20 n.ents.length c21]) (by have eb_ := hk32; have e0_ := eb_.cellv (i := 0) (v := (.int .i64 n.kind : Value)) rfl; have e1_ := eb_.cellv (i := 1) (v := (.int .i64 n.fr : Value)) rfl; have e2_ := eb_.cellv (i := 2) (v := (.int .i64 n.tw : Value)) rfl; have e3_ := eb_.cellv (i := 3) (v := (.slice A16 n.nums.length c17 : Value)) rfl; have e4_ := eb_.cellv (i := 4) (v := (.slice A18 n.ops.length c19 : Value)) rfl; have e5_ := eb_.cellv (i := 5) (v := (.slice A20 n.ents.length c21 : Value)) rfl; simp [go_sem, sEv, sLook, nbeq, i64_w, -List.getD_eq_getElem?_getD, e0_, e1_, e2_, e3_, e4_, e5_, Try.underlying26]) ?_
    have hI_ := listN_I hNI (by omega)
    rcases hg_ : goodN n with _ | _
    · have hee_ := (eb_no hg_).2
      have hen_ := (en_no hg_).2
      refine rw_call rfl rfl rfl rfl (f := 12) (args := #[.agg #[.int .i64 n.kind, .int .i64 n.fr, .int .i64 n.tw, .slice A16 n.nums.length c17, .slice A18 n.ops.length c19, .slice A20 n.ents.length c21]]) (by simp [go_sem, sEv, sLook, nbeq, i64_w, -List.getD_eq_getElem?_getD]) (enc_x w30 n A16 c17 A18 c19 A20 c21 (Kd.C_below (OwnK.front (d := (Kd.int .i64)) hO13) (hk31.below (by omega) hb26)) (show n.nums.length ≤ c17 by have q_ := OwnK.cap (d := (Kd.int .i64)) hO13; omega) (OwnK.C (d := kOp) (own_keep (d := kOp) (OwnK.on (d := kOp) hO14 hb26) hk27 (by decide) hk31)) (OwnK.cap (d := kOp) hO14) (OwnK.C (d := kEntry) (own_keep (d := kEntry) (OwnK.on (d := kEntry) hO15 hb26) hk27 (by decide) hk31)) (OwnK.cap (d := kEntry) hO15) (by omega) (by omega) (by omega) hI_ hee_) ?_
      rintro e_ w34 ⟨A36, c37, rfl, hO380, hb35⟩
      refine ⟨_, rfl, ?_⟩
      have hs_w34 := hb35.size
      have hO38 := OwnK.lower (base' := w.heap.size) (d := (Kd.int .u8)) hO380 (by omega)
      refine rv (.tuple #[.slice A36 ((EB n).length) c37, errT (some 2)]) ?_
      refine rs (.slice A36 ((EB n).length) c37) ?_
      refine rs (errT (some 2)) ?_
      refine rv (.slice A36 ((EB n).length) c37) ?_
      refine rv (errT (some 2)) ?_
      refine rw_end ?_
      refine w_weaken (G' := [(1, .pointer (some ⟨g1, 0, none⟩)), (2, .bool false), (3, .pointer (some ⟨g24, 0, none⟩)), (4, .slice A36 ((EB n).length) c37), (5, errT (some 2))]) ⟨rfl, rfl, rfl, rfl, rfl, trivial⟩ ?_
      refine wsr ?_
      refine rz (.agg #[.int .i64 n.kind, .int .i64 n.fr, .int .i64 n.tw, .slice A3 n.nums.length c3, .slice A4 n.ops.length c4, .slice A5 n.ents.length c5]) (by have eb_ := ((((((hk4.on hb8).on hb10).on hb23).on hb26).keep hk31 (by omega)).on hb35); have e0_ := eb_.cellv (i := 0) (v := (.int .i64 n.kind : Value)) rfl; have e1_ := eb_.cellv (i := 1) (v := (.int .i64 n.fr : Value)) rfl; have e2_ := eb_.cellv (i := 2) (v := (.int .i64 n.tw : Value)) rfl; have e3_ := eb_.cellv (i := 3) (v := (.slice A3 n.nums.length c3 : Value)) rfl; have e4_ := eb_.cellv (i := 4) (v := (.slice A4 n.ops.length c4 : Value)) rfl; have e5_ := eb_.cellv (i := 5) (v := (.slice A5 n.ents.length c5 : Value)) rfl; simp [go_sem, sEv, sLook, nbeq, i64_w, -List.getD_eq_getElem?_getD, e0_, e1_, e2_, e3_, e4_, e5_, Try.underlying26]) ?_
      · refine rw_call rfl rfl rfl rfl (f := 13) (args := #[.agg #[.int .i64 n.kind, .int .i64 n.fr, .int .i64 n.tw, .slice A3 n.nums.length c3, .slice A4 n.ops.length c4, .slice A5 n.ents.length c5]]) (by simp [go_sem, sEv, sLook, nbeq, i64_w, -List.getD_eq_getElem?_getD]) (renc_x w34 n A3 c3 A4 c4 A5 c5 (Kd.C_below hn3 (chain (hk31.below (by omega) (chain (chain (chain (chain hb3 hb8) hb10) hb23) hb26)) hb35)) hc3 (Kd.C_below hn4 (chain (hk31.below (by omega) (chain (chain (chain (chain hb3 hb8) hb10) hb23) hb26)) hb35)) hc4 (Kd.C_below hn5 (chain (hk31.below (by omega) (chain (chain (chain (chain hb3 hb8) hb10) hb23) hb26)) hb35)) hc5 (by omega) (by omega) (by omega) hI_ hen_) ?_
        rintro e_ w39 ⟨A41, c42, rfl, hO430, hb40⟩
        refine ⟨_, rfl, ?_⟩
        have hs_w39 := hb40.size
        have hO43 := OwnK.lower (base' := w.heap.size) (d := (Kd.int .u8)) hO430 (by omega)
        refine rv (.tuple #[.slice A41 ((EB n).length) c42, .int .i64 2]) ?_
        refine rs (.slice A41 ((EB n).length) c42) ?_
        refine rs (.int .i64 2) ?_
        refine rv (.slice A41 ((EB n).length) c42) ?_
        refine rv (.int .i64 2) ?_
        refine rw_end ?_
        refine w_weaken (G' := [(1, .pointer (some ⟨g1, 0, none⟩)), (2, .bool false), (3, .pointer (some ⟨g24, 0, none⟩)), (4, .slice A36 ((EB n).length) c37), (5, errT (some 2)), (6, .slice A41 ((EB n).length) c42), (7, .int .i64 2)]) ⟨rfl, rfl, rfl, rfl, rfl, rfl, rfl, trivial⟩ ?_
        refine w_seq ?_
        have hP45 : (Kd.int .i64).C w39 A16 (n.nums.length + 1) ((n.nums ++ [(-77)])) := by rw [show n.nums.length + 1 = (n.nums ++ [(-77)]).length by simp]; exact OwnK.C (d := (Kd.int .i64)) (OwnK.on (d := (Kd.int .i64)) (OwnK.on (d := (Kd.int .i64)) (own_keep (d := (Kd.int .i64)) (OwnK.on (d := (Kd.int .i64)) hO13 hb26) hk27 (by decide) hk31) hb35) hb40)
        refine w_drawk (M := [0, 1, 0, 4, 15, 31, 63, 127, 63, 511, 1023, 2047, 4095, 8191, 16383, 4095, 49151, 131071, 262143, 524287, 1048575, 1048575, 4194303, 8388607, 16777215, 33554431, 67108863, 33554431, 167772159, 436207615, 973078527, 2147483647, 33554431, 4328521727, 12918456319, 34359738367, 68719476735, 137438953471, 274877906943, 549755813887]) (ss := [Is (.slice A36 ((EB n).length) c37), Is (.string (strOfNums (EB n))), Is (.slice A41 ((EB n).length) c42), Is (.string (strOfNums (EB n))), Is (.bool true), Is (.bool true), Is (errT (some 2)), (Is (.int .i64 2)), Is (.int .i64 2), Is (.bool true), Is (.bool true), Is (.bool true), Is (.agg #[.int .i64 n.kind, .int .i64 n.fr, .int .i64 n.tw, .slice A16 n.nums.length c17, .slice A18 n.ops.length c19, .slice A20 n.ents.length c21]), (Is (errT (some 2))), Is (.bool ((some 2).isNone)), Is (.agg #[.int .i64 n.kind, .int .i64 n.fr, .int .i64 n.tw, .slice A3 n.nums.length c3, .slice A4 n.ops.length c4, .slice A5 n.ents.length c5]), (Is (.bool false)), Is (.bool true), Is (.bool true), Is (.bool true), Is (.agg #[.int .i64 n.kind, .int .i64 n.fr, .int .i64 n.tw, .slice A16 n.nums.length c17, .slice A18 n.ops.length c19, .slice A20 n.ents.length c21]), Is (.agg #[.int .i64 n.kind, .int .i64 n.fr, .int .i64 n.tw, .slice A3 n.nums.length c3, .slice A4 n.ops.length c4, .slice A5 n.ents.length c5]), (Is (.bool true)), Is (.bool true), Is (.bool true), Is (.pointer (some ⟨g24, 3, none⟩)), Is (.slice A16 n.nums.length c17), Is (.pointer (some ⟨g24, 3, none⟩)), Is (.slice A16 n.nums.length c17), Is (.int .i64 ((n.nums.length : Nat) : Int)), Is (.int .i64 ((n.nums.length + 1 : Nat) : Int)), Is (.slice A16 (n.nums.length + 1) c17), Is (.pointer (some ⟨g24, 3, none⟩)), Is (.slice A16 n.nums.length c17), Is (.int .i64 ((n.nums.length : Nat) : Int))]) 35 rfl (by decide +kernel) ?_
        refine tr (.slice A36 ((EB n).length) c37) ?_
        refine t_is (.string (strOfNums (EB n))) rfl rfl rfl rfl (fun W_ hW_ F_ => (run_as (run_str_of (P := Try.prog) (e := 5) (by kernel_rfl) (by kernel_rfl) (by kernel_rfl) (Kd.C_below (OwnK.C (d := (Kd.int .u8)) hO38) (chain hb40 (below_of_drew hW_)))))) ?_
        refine tr (.slice A41 ((EB n).length) c42) ?_
        refine t_is (.string (strOfNums (EB n))) rfl rfl rfl rfl (fun W_ hW_ F_ => (run_as (run_str_of (P := Try.prog) (e := 5) (by kernel_rfl) (by kernel_rfl) (by kernel_rfl) (Kd.C_below (OwnK.C (d := (Kd.int .u8)) hO43) (chain (Below.refl _ _) (below_of_drew hW_)))))) ?_
        refine t_is (.bool true) rfl rfl rfl rfl (fun W_ hW_ F_ => (run_bool (run_as (run_str_eql 9 _ _ _)) (by simp))) ?_
        refine tr (.bool true) ?_
        refine t_gis (c := true) (errT (some 2)) rfl rfl rfl rfl rfl rfl rfl (fun W_ hW_ F_ => rfl) ?_
        refine t_gcall (c := true) (f := 14) (args := #[errT (some 2)]) (Is (.int .i64 2)) rfl rfl rfl rfl rfl rfl rfl (fun W_ => by simp [go_sem, sEv, sLook, nbeq, i64_w, -List.getD_eq_getElem?_getD]) (fun W_ hW_ F_ => ?_) ?_
        · refine (num_x W_ (some 2) 2 (.inr ⟨rfl, rfl⟩)).mono ?_
          rintro e_ w_ ⟨rfl, hb_⟩
          exact ⟨_, rfl, rfl, hb_⟩
        rintro _ rfl
        refine t_gis (c := true) (.int .i64 2) rfl rfl rfl rfl rfl rfl rfl (fun W_ hW_ F_ => rfl) ?_
        refine t_gis (c := true) (.bool true) rfl rfl rfl rfl rfl rfl rfl (fun W_ hW_ F_ => (by simp [go_sem, sEv, sLook, nbeq, i64_w, -List.getD_eq_getElem?_getD])) ?_
        refine ts (.bool true) ?_
        refine tr (.bool true) ?_
        refine t_gis (c := true) (.agg #[.int .i64 n.kind, .int .i64 n.fr, .int .i64 n.tw, .slice A16 n.nums.length c17, .slice A18 n.ops.length c19, .slice A20 n.ents.length c21]) rfl rfl rfl rfl rfl rfl rfl (fun W_ hW_ F_ => by have eb_ := (((hk32.on hb35).on hb40).on (below_of_drew hW_)); have e0_ := eb_.cellv (i := 0) (v := (.int .i64 n.kind : Value)) rfl; have e1_ := eb_.cellv (i := 1) (v := (.int .i64 n.fr : Value)) rfl; have e2_ := eb_.cellv (i := 2) (v := (.int .i64 n.tw : Value)) rfl; have e3_ := eb_.cellv (i := 3) (v := (.slice A16 n.nums.length c17 : Value)) rfl; have e4_ := eb_.cellv (i := 4) (v := (.slice A18 n.ops.length c19 : Value)) rfl; have e5_ := eb_.cellv (i := 5) (v := (.slice A20 n.ents.length c21 : Value)) rfl; simp [go_sem, sEv, sLook, nbeq, i64_w, -List.getD_eq_getElem?_getD, e0_, e1_, e2_, e3_, e4_, e5_, Try.underlying26]) ?_
        refine t_gcall (c := true) (f := 15) (args := #[.agg #[.int .i64 n.kind, .int .i64 n.fr, .int .i64 n.tw, .slice A16 n.nums.length c17, .slice A18 n.ops.length c19, .slice A20 n.ents.length c21]]) (Is (errT (some 2))) rfl rfl rfl rfl rfl rfl rfl (fun W_ => by simp [go_sem, sEv, sLook, nbeq, i64_w, -List.getD_eq_getElem?_getD]) (fun W_ hW_ F_ => ?_) ?_
        · refine (check_no W_ n A16 c17 A18 c19 A20 c21 (Kd.C_below (OwnK.front (d := (Kd.int .i64)) hO13) (chain (chain (chain (hk31.below (by omega) hb26) hb35) hb40) (below_of_drew hW_))) (show n.nums.length ≤ c17 by have q_ := OwnK.cap (d := (Kd.int .i64)) hO13; omega) (Kd.C_below (OwnK.C (d := kOp) hO14) (chain (chain (chain (hk31.below (by omega) hb26) hb35) hb40) (below_of_drew hW_))) (OwnK.cap (d := kOp) hO14) (Kd.C_below (OwnK.C (d := kEntry) hO15) (chain (chain (chain (hk31.below (by omega) hb26) hb35) hb40) (below_of_drew hW_))) (OwnK.cap (d := kEntry) hO15) (by omega) (by omega) (by omega) hg_).mono ?_
          rintro e_ w_ ⟨rfl, hb_⟩
          exact ⟨_, rfl, rfl, hb_⟩
        rintro _ rfl
        refine t_gis (c := true) (.bool ((some 2).isNone)) rfl rfl rfl rfl rfl rfl rfl (fun W_ hW_ F_ => (run_as (guard_err_eq0 _ (some 2) _))) ?_
        refine t_gis (c := true) (.agg #[.int .i64 n.kind, .int .i64 n.fr, .int .i64 n.tw, .slice A3 n.nums.length c3, .slice A4 n.ops.length c4, .slice A5 n.ents.length c5]) rfl rfl rfl rfl rfl rfl rfl (fun W_ hW_ F_ => by have eb_ := ((((((((hk4.on hb8).on hb10).on hb23).on hb26).keep hk31 (by omega)).on hb35).on hb40).on (below_of_drew hW_)); have e0_ := eb_.cellv (i := 0) (v := (.int .i64 n.kind : Value)) rfl; have e1_ := eb_.cellv (i := 1) (v := (.int .i64 n.fr : Value)) rfl; have e2_ := eb_.cellv (i := 2) (v := (.int .i64 n.tw : Value)) rfl; have e3_ := eb_.cellv (i := 3) (v := (.slice A3 n.nums.length c3 : Value)) rfl; have e4_ := eb_.cellv (i := 4) (v := (.slice A4 n.ops.length c4 : Value)) rfl; have e5_ := eb_.cellv (i := 5) (v := (.slice A5 n.ents.length c5 : Value)) rfl; simp [go_sem, sEv, sLook, nbeq, i64_w, -List.getD_eq_getElem?_getD, e0_, e1_, e2_, e3_, e4_, e5_, Try.underlying26]) ?_
        refine t_gcall (c := true) (f := 16) (args := #[.agg #[.int .i64 n.kind, .int .i64 n.fr, .int .i64 n.tw, .slice A3 n.nums.length c3, .slice A4 n.ops.length c4, .slice A5 n.ents.length c5]]) (Is (.bool false)) rfl rfl rfl rfl rfl rfl rfl (fun W_ => by simp [go_sem, sEv, sLook, nbeq, i64_w, -List.getD_eq_getElem?_getD]) (fun W_ hW_ F_ => ?_) ?_
        · refine (good_x W_ n A3 c3 A4 c4 A5 c5 (Kd.C_below hn3 (chain (chain (chain (hk31.below (by omega) (chain (chain (chain (chain hb3 hb8) hb10) hb23) hb26)) hb35) hb40) (below_of_drew hW_))) hc3 (Kd.C_below hn4 (chain (chain (chain (hk31.below (by omega) (chain (chain (chain (chain hb3 hb8) hb10) hb23) hb26)) hb35) hb40) (below_of_drew hW_))) hc4 (Kd.C_below hn5 (chain (chain (chain (hk31.below (by omega) (chain (chain (chain (chain hb3 hb8) hb10) hb23) hb26)) hb35) hb40) (below_of_drew hW_))) hc5 (by omega) (by omega) (by omega) hg_).mono ?_
          rintro e_ w_ ⟨rfl, hb_⟩
          exact ⟨_, rfl, rfl, hb_⟩
        rintro _ rfl
        have hq44 : ((some 2).isNone) = false := by rfl
        refine t_gis (c := true) (.bool true) rfl rfl rfl rfl rfl rfl rfl (fun W_ hW_ F_ => (by simp [go_sem, sEv, sLook, nbeq, i64_w, -List.getD_eq_getElem?_getD])) ?_
        refine ts (.bool true) ?_
        refine tr (.bool true) ?_
        refine t_gis (c := true) (.agg #[.int .i64 n.kind, .int .i64 n.fr, .int .i64 n.tw, .slice A16 n.nums.length c17, .slice A18 n.ops.length c19, .slice A20 n.ents.length c21]) rfl rfl rfl rfl rfl rfl rfl (fun W_ hW_ F_ => by have eb_ := (((hk32.on hb35).on hb40).on (below_of_drew hW_)); have e0_ := eb_.cellv (i := 0) (v := (.int .i64 n.kind : Value)) rfl; have e1_ := eb_.cellv (i := 1) (v := (.int .i64 n.fr : Value)) rfl; have e2_ := eb_.cellv (i := 2) (v := (.int .i64 n.tw : Value)) rfl; have e3_ := eb_.cellv (i := 3) (v := (.slice A16 n.nums.length c17 : Value)) rfl; have e4_ := eb_.cellv (i := 4) (v := (.slice A18 n.ops.length c19 : Value)) rfl; have e5_ := eb_.cellv (i := 5) (v := (.slice A20 n.ents.length c21 : Value)) rfl; simp [go_sem, sEv, sLook, nbeq, i64_w, -List.getD_eq_getElem?_getD, e0_, e1_, e2_, e3_, e4_, e5_, Try.underlying26]) ?_
        refine t_gis (c := true) (.agg #[.int .i64 n.kind, .int .i64 n.fr, .int .i64 n.tw, .slice A3 n.nums.length c3, .slice A4 n.ops.length c4, .slice A5 n.ents.length c5]) rfl rfl rfl rfl rfl rfl rfl (fun W_ hW_ F_ => by have eb_ := ((((((((hk4.on hb8).on hb10).on hb23).on hb26).keep hk31 (by omega)).on hb35).on hb40).on (below_of_drew hW_)); have e0_ := eb_.cellv (i := 0) (v := (.int .i64 n.kind : Value)) rfl; have e1_ := eb_.cellv (i := 1) (v := (.int .i64 n.fr : Value)) rfl; have e2_ := eb_.cellv (i := 2) (v := (.int .i64 n.tw : Value)) rfl; have e3_ := eb_.cellv (i := 3) (v := (.slice A3 n.nums.length c3 : Value)) rfl; have e4_ := eb_.cellv (i := 4) (v := (.slice A4 n.ops.length c4 : Value)) rfl; have e5_ := eb_.cellv (i := 5) (v := (.slice A5 n.ents.length c5 : Value)) rfl; simp [go_sem, sEv, sLook, nbeq, i64_w, -List.getD_eq_getElem?_getD, e0_, e1_, e2_, e3_, e4_, e5_, Try.underlying26]) ?_
        refine t_gcall (c := true) (f := 17) (args := #[.agg #[.int .i64 n.kind, .int .i64 n.fr, .int .i64 n.tw, .slice A16 n.nums.length c17, .slice A18 n.ops.length c19, .slice A20 n.ents.length c21], .agg #[.int .i64 n.kind, .int .i64 n.fr, .int .i64 n.tw, .slice A3 n.nums.length c3, .slice A4 n.ops.length c4, .slice A5 n.ents.length c5]]) (Is (.bool true)) rfl rfl rfl rfl rfl rfl rfl (fun W_ => by simp [go_sem, sEv, sLook, nbeq, i64_w, -List.getD_eq_getElem?_getD]) (fun W_ hW_ F_ => ?_) ?_
        · refine (rsame_self W_ n A16 c17 A18 c19 A20 c21 (Kd.C_below (OwnK.front (d := (Kd.int .i64)) hO13) (chain (chain (chain (hk31.below (by omega) hb26) hb35) hb40) (below_of_drew hW_))) (show n.nums.length ≤ c17 by have q_ := OwnK.cap (d := (Kd.int .i64)) hO13; omega) (by omega) (Kd.C_below (OwnK.C (d := kOp) hO14) (chain (chain (chain (hk31.below (by omega) hb26) hb35) hb40) (below_of_drew hW_))) (OwnK.cap (d := kOp) hO14) (by omega) (Kd.C_below (OwnK.C (d := kEntry) hO15) (chain (chain (chain (hk31.below (by omega) hb26) hb35) hb40) (below_of_drew hW_))) (OwnK.cap (d := kEntry) hO15) (by omega) A3 c3 A4 c4 A5 c5 (Kd.C_below hn3 (chain (chain (chain (hk31.below (by omega) (chain (chain (chain (chain hb3 hb8) hb10) hb23) hb26)) hb35) hb40) (below_of_drew hW_))) hc3 (by omega) (Kd.C_below hn4 (chain (chain (chain (hk31.below (by omega) (chain (chain (chain (chain hb3 hb8) hb10) hb23) hb26)) hb35) hb40) (below_of_drew hW_))) hc4 (by omega) (Kd.C_below hn5 (chain (chain (chain (hk31.below (by omega) (chain (chain (chain (chain hb3 hb8) hb10) hb23) hb26)) hb35) hb40) (below_of_drew hW_))) hc5 (by omega)).mono ?_
          rintro e_ w_ ⟨rfl, hb_⟩
          exact ⟨_, rfl, rfl, hb_⟩
        rintro _ rfl
        refine ts (.bool true) ?_
        refine tr (.bool true) ?_
        refine t_gis (c := true) (.pointer (some ⟨g24, 3, none⟩)) rfl rfl rfl rfl rfl rfl rfl (fun W_ hW_ F_ => by simp [go_sem, sEv, sLook, nbeq, i64_w, -List.getD_eq_getElem?_getD, Try.underlying26]) ?_
        refine t_gis (c := true) (.slice A16 n.nums.length c17) rfl rfl rfl rfl rfl rfl rfl (fun W_ hW_ F_ => by have eb_ := (((hk32.on hb35).on hb40).on (below_of_drew hW_)); have e0_ := eb_.cellv (i := 3) (v := (.slice A16 n.nums.length c17 : Value)) rfl; simp [go_sem, sEv, sLook, nbeq, i64_w, -List.getD_eq_getElem?_getD, e0_, Try.underlying22]) ?_
        refine t_gis (c := true) (.pointer (some ⟨g24, 3, none⟩)) rfl rfl rfl rfl rfl rfl rfl (fun W_ hW_ F_ => by simp [go_sem, sEv, sLook, nbeq, i64_w, -List.getD_eq_getElem?_getD, Try.underlying26]) ?_
        refine t_gis (c := true) (.slice A16 n.nums.length c17) rfl rfl rfl rfl rfl rfl rfl (fun W_ hW_ F_ => by have eb_ := (((hk32.on hb35).on hb40).on (below_of_drew hW_)); have e0_ := eb_.cellv (i := 3) (v := (.slice A16 n.nums.length c17 : Value)) rfl; simp [go_sem, sEv, sLook, nbeq, i64_w, -List.getD_eq_getElem?_getD, e0_, Try.underlying22]) ?_
        refine t_gis (c := true) (.int .i64 ((n.nums.length : Nat) : Int)) rfl rfl rfl rfl rfl rfl rfl (fun W_ hW_ F_ => (by simp [go_sem, sEv, sLook, nbeq, i64_w, -List.getD_eq_getElem?_getD])) ?_
        refine t_gis (c := true) (.int .i64 ((n.nums.length + 1 : Nat) : Int)) rfl rfl rfl rfl rfl rfl rfl (fun W_ hW_ F_ => by simp [go_sem, sEv, sLook, nbeq, i64_w, -List.getD_eq_getElem?_getD]; exact wrap_id (by omega) (by omega)) ?_
        refine t_gis (c := true) (.slice A16 (n.nums.length + 1) c17) rfl rfl rfl rfl rfl rfl rfl (fun W_ hW_ F_ => (run_as (sl_to (sz := 1) (e := 3) (by kernel_rfl) (fun _ => by kernel_rfl) (n.nums.length + 1) _ (by first | rfl | (simp; done) | omega) (by have q_ := OwnK.cap (d := (Kd.int .i64)) hO13; omega) _))) ?_
        refine t_gis (c := true) (.pointer (some ⟨g24, 3, none⟩)) rfl rfl rfl rfl rfl rfl rfl (fun W_ hW_ F_ => by simp [go_sem, sEv, sLook, nbeq, i64_w, -List.getD_eq_getElem?_getD, Try.underlying26]) ?_
        refine t_gis (c := true) (.slice A16 n.nums.length c17) rfl rfl rfl rfl rfl rfl rfl (fun W_ hW_ F_ => by have eb_ := (((hk32.on hb35).on hb40).on (below_of_drew hW_)); have e0_ := eb_.cellv (i := 3) (v := (.slice A16 n.nums.length c17 : Value)) rfl; simp [go_sem, sEv, sLook, nbeq, i64_w, -List.getD_eq_getElem?_getD, e0_, Try.underlying22]) ?_
        refine t_gis (c := true) (.int .i64 ((n.nums.length : Nat) : Int)) rfl rfl rfl rfl rfl rfl rfl (fun W_ hW_ F_ => (by simp [go_sem, sEv, sLook, nbeq, i64_w, -List.getD_eq_getElem?_getD])) ?_
        refine t_tail ?_
        intro w46 hb47_ F48
        have hb47 := below_of_drew hb47_
        have hs_w46 := hb47.size
        clear F48
        refine rn true ?_
        obtain ⟨ad49, hA50, hc51⟩ := int_at (Kd.C_below hP45 hb47) 0 n.nums.length (by first | omega | decide)
        subst hA50
        have he52 : w46.cell? (ad49.add (n.nums.length)) = some (.int .i64 ((n.nums ++ [(-77)]).getD n.nums.length 0)) := cell_0 (hc51 0 _ rfl)
        refine rz (.pointer (some (ad49.add (n.nums.length)))) (run_as (run_at_1 (P := Try.prog) (e := 3) (by kernel_rfl) (by kernel_rfl) n.nums.length (by first | omega | decide) _)) ?_
        refine rn true ?_
        refine rz (.int .i64 ((n.nums ++ [(-77)]).getD n.nums.length 0)) (by have e0_ := cellOn he52 (Below.refl _ _); simp [go_sem, sEv, sLook, nbeq, i64_w, -List.getD_eq_getElem?_getD, e0_]) ?_
        refine rn true ?_
        refine rs (.bool (((n.nums ++ [(-77)]).getD n.nums.length 0) == (-77))) ?_
        refine rs (.bool (((n.nums ++ [(-77)]).getD n.nums.length 0) == (-77))) ?_
        refine rv (.bool (((n.nums ++ [(-77)]).getD n.nums.length 0) == (-77))) ?_
        refine rw_end ?_
        refine w_weaken (G' := [(2, .bool (((n.nums ++ [(-77)]).getD n.nums.length 0) == (-77)))]) ⟨rfl, trivial⟩ ?_
        have hq53 : (((n.nums ++ [(-77)]).getD n.nums.length 0) == (-77)) = true := by simp [List.getD_eq_getElem?_getD]
        refine w_ret (post_ret1 rfl rfl ?_)
        exact ⟨by first | rfl | (simp [hq53]; done) | (simp_all; done), (chain (chain (chain (hk31.below (by omega) (chain (chain (chain (chain hb3 hb8) hb10) hb23) hb26)) hb35) hb40) hb47)⟩
    · have hee_ := (enc_ok hg_ hI_).1
      have hen_ := en_ok hg_ hI_
      refine rw_call rfl rfl rfl rfl (f := 12) (args := #[.agg #[.int .i64 n.kind, .int .i64 n.fr, .int .i64 n.tw, .slice A16 n.nums.length c17, .slice A18 n.ops.length c19, .slice A20 n.ents.length c21]]) (by simp [go_sem, sEv, sLook, nbeq, i64_w, -List.getD_eq_getElem?_getD]) (enc_x w30 n A16 c17 A18 c19 A20 c21 (Kd.C_below (OwnK.front (d := (Kd.int .i64)) hO13) (hk31.below (by omega) hb26)) (show n.nums.length ≤ c17 by have q_ := OwnK.cap (d := (Kd.int .i64)) hO13; omega) (OwnK.C (d := kOp) (own_keep (d := kOp) (OwnK.on (d := kOp) hO14 hb26) hk27 (by decide) hk31)) (OwnK.cap (d := kOp) hO14) (OwnK.C (d := kEntry) (own_keep (d := kEntry) (OwnK.on (d := kEntry) hO15 hb26) hk27 (by decide) hk31)) (OwnK.cap (d := kEntry) hO15) (by omega) (by omega) (by omega) hI_ hee_) ?_
      rintro e_ w54 ⟨A56, c57, rfl, hO580, hb55⟩
      refine ⟨_, rfl, ?_⟩
      have hs_w54 := hb55.size
      have hO58 := OwnK.lower (base' := w.heap.size) (d := (Kd.int .u8)) hO580 (by omega)
      refine rv (.tuple #[.slice A56 ((EB n).length) c57, .nilIface]) ?_
      refine rs (.slice A56 ((EB n).length) c57) ?_
      refine rs .nilIface ?_
      refine rv (.slice A56 ((EB n).length) c57) ?_
      refine rv .nilIface ?_
      refine rw_end ?_
      refine w_weaken (G' := [(1, .pointer (some ⟨g1, 0, none⟩)), (2, .bool false), (3, .pointer (some ⟨g24, 0, none⟩)), (4, .slice A56 ((EB n).length) c57), (5, .nilIface)]) ⟨rfl, rfl, rfl, rfl, rfl, trivial⟩ ?_
      refine wsr ?_
      refine rz (.agg #[.int .i64 n.kind, .int .i64 n.fr, .int .i64 n.tw, .slice A3 n.nums.length c3, .slice A4 n.ops.length c4, .slice A5 n.ents.length c5]) (by have eb_ := ((((((hk4.on hb8).on hb10).on hb23).on hb26).keep hk31 (by omega)).on hb55); have e0_ := eb_.cellv (i := 0) (v := (.int .i64 n.kind : Value)) rfl; have e1_ := eb_.cellv (i := 1) (v := (.int .i64 n.fr : Value)) rfl; have e2_ := eb_.cellv (i := 2) (v := (.int .i64 n.tw : Value)) rfl; have e3_ := eb_.cellv (i := 3) (v := (.slice A3 n.nums.length c3 : Value)) rfl; have e4_ := eb_.cellv (i := 4) (v := (.slice A4 n.ops.length c4 : Value)) rfl; have e5_ := eb_.cellv (i := 5) (v := (.slice A5 n.ents.length c5 : Value)) rfl; simp [go_sem, sEv, sLook, nbeq, i64_w, -List.getD_eq_getElem?_getD, e0_, e1_, e2_, e3_, e4_, e5_, Try.underlying26]) ?_
      · refine rw_call rfl rfl rfl rfl (f := 13) (args := #[.agg #[.int .i64 n.kind, .int .i64 n.fr, .int .i64 n.tw, .slice A3 n.nums.length c3, .slice A4 n.ops.length c4, .slice A5 n.ents.length c5]]) (by simp [go_sem, sEv, sLook, nbeq, i64_w, -List.getD_eq_getElem?_getD]) (renc_x w54 n A3 c3 A4 c4 A5 c5 (Kd.C_below hn3 (chain (hk31.below (by omega) (chain (chain (chain (chain hb3 hb8) hb10) hb23) hb26)) hb55)) hc3 (Kd.C_below hn4 (chain (hk31.below (by omega) (chain (chain (chain (chain hb3 hb8) hb10) hb23) hb26)) hb55)) hc4 (Kd.C_below hn5 (chain (hk31.below (by omega) (chain (chain (chain (chain hb3 hb8) hb10) hb23) hb26)) hb55)) hc5 (by omega) (by omega) (by omega) hI_ hen_) ?_
        rintro e_ w59 ⟨A61, c62, rfl, hO630, hb60⟩
        refine ⟨_, rfl, ?_⟩
        have hs_w59 := hb60.size
        have hO63 := OwnK.lower (base' := w.heap.size) (d := (Kd.int .u8)) hO630 (by omega)
        refine rv (.tuple #[.slice A61 ((EB n).length) c62, .int .i64 0]) ?_
        refine rs (.slice A61 ((EB n).length) c62) ?_
        refine rs (.int .i64 0) ?_
        refine rv (.slice A61 ((EB n).length) c62) ?_
        refine rv (.int .i64 0) ?_
        refine rw_end ?_
        refine w_weaken (G' := [(1, .pointer (some ⟨g1, 0, none⟩)), (2, .bool false), (3, .pointer (some ⟨g24, 0, none⟩)), (4, .slice A56 ((EB n).length) c57), (5, .nilIface), (6, .slice A61 ((EB n).length) c62), (7, .int .i64 0)]) ⟨rfl, rfl, rfl, rfl, rfl, rfl, rfl, trivial⟩ ?_
        refine w_seq ?_
        have hP65 : (Kd.int .i64).C w59 A16 (n.nums.length + 1) ((n.nums ++ [(-77)])) := by rw [show n.nums.length + 1 = (n.nums ++ [(-77)]).length by simp]; exact OwnK.C (d := (Kd.int .i64)) (OwnK.on (d := (Kd.int .i64)) (OwnK.on (d := (Kd.int .i64)) (own_keep (d := (Kd.int .i64)) (OwnK.on (d := (Kd.int .i64)) hO13 hb26) hk27 (by decide) hk31) hb55) hb60)
        refine w_drawk (M := [0, 1, 0, 4, 15, 31, 63, 127, 63, 511, 1023, 2047, 4095, 8191, 16383, 4095, 49151, 131071, 262143, 524287, 1048575, 1048575, 4194303, 8388607, 16777215, 33554431, 67108863, 33554431, 167772159, 436207615, 973078527, 2147483647, 33554431, 4328521727, 12918456319, 34359738367, 68719476735, 137438953471, 274877906943, 549755813887]) (ss := [Is (.slice A56 ((EB n).length) c57), Is (.string (strOfNums (EB n))), Is (.slice A61 ((EB n).length) c62), Is (.string (strOfNums (EB n))), Is (.bool true), Is (.bool true), Is (.nilIface), (Is (.int .i64 0)), Is (.int .i64 0), Is (.bool true), Is (.bool true), Is (.bool true), Is (.agg #[.int .i64 n.kind, .int .i64 n.fr, .int .i64 n.tw, .slice A16 n.nums.length c17, .slice A18 n.ops.length c19, .slice A20 n.ents.length c21]), (Is (.nilIface)), Is (.bool ((none : Option Int).isNone)), Is (.agg #[.int .i64 n.kind, .int .i64 n.fr, .int .i64 n.tw, .slice A3 n.nums.length c3, .slice A4 n.ops.length c4, .slice A5 n.ents.length c5]), (Is (.bool true)), Is (.bool true), Is (.bool true), Is (.bool true), Is (.agg #[.int .i64 n.kind, .int .i64 n.fr, .int .i64 n.tw, .slice A16 n.nums.length c17, .slice A18 n.ops.length c19, .slice A20 n.ents.length c21]), Is (.agg #[.int .i64 n.kind, .int .i64 n.fr, .int .i64 n.tw, .slice A3 n.nums.length c3, .slice A4 n.ops.length c4, .slice A5 n.ents.length c5]), (Is (.bool true)), Is (.bool true), Is (.bool true), Is (.pointer (some ⟨g24, 3, none⟩)), Is (.slice A16 n.nums.length c17), Is (.pointer (some ⟨g24, 3, none⟩)), Is (.slice A16 n.nums.length c17), Is (.int .i64 ((n.nums.length : Nat) : Int)), Is (.int .i64 ((n.nums.length + 1 : Nat) : Int)), Is (.slice A16 (n.nums.length + 1) c17), Is (.pointer (some ⟨g24, 3, none⟩)), Is (.slice A16 n.nums.length c17), Is (.int .i64 ((n.nums.length : Nat) : Int))]) 35 rfl (by decide +kernel) ?_
        refine tr (.slice A56 ((EB n).length) c57) ?_
        refine t_is (.string (strOfNums (EB n))) rfl rfl rfl rfl (fun W_ hW_ F_ => (run_as (run_str_of (P := Try.prog) (e := 5) (by kernel_rfl) (by kernel_rfl) (by kernel_rfl) (Kd.C_below (OwnK.C (d := (Kd.int .u8)) hO58) (chain hb60 (below_of_drew hW_)))))) ?_
        refine tr (.slice A61 ((EB n).length) c62) ?_
        refine t_is (.string (strOfNums (EB n))) rfl rfl rfl rfl (fun W_ hW_ F_ => (run_as (run_str_of (P := Try.prog) (e := 5) (by kernel_rfl) (by kernel_rfl) (by kernel_rfl) (Kd.C_below (OwnK.C (d := (Kd.int .u8)) hO63) (chain (Below.refl _ _) (below_of_drew hW_)))))) ?_
        refine t_is (.bool true) rfl rfl rfl rfl (fun W_ hW_ F_ => (run_bool (run_as (run_str_eql 9 _ _ _)) (by simp))) ?_
        refine tr (.bool true) ?_
        refine t_gis (c := true) (.nilIface) rfl rfl rfl rfl rfl rfl rfl (fun W_ hW_ F_ => rfl) ?_
        refine t_gcall (c := true) (f := 14) (args := #[.nilIface]) (Is (.int .i64 0)) rfl rfl rfl rfl rfl rfl rfl (fun W_ => by simp [go_sem, sEv, sLook, nbeq, i64_w, -List.getD_eq_getElem?_getD]) (fun W_ hW_ F_ => ?_) ?_
        · refine (num_x W_ none 0 (.inl ⟨rfl, rfl⟩)).mono ?_
          rintro e_ w_ ⟨rfl, hb_⟩
          exact ⟨_, rfl, rfl, hb_⟩
        rintro _ rfl
        refine t_gis (c := true) (.int .i64 0) rfl rfl rfl rfl rfl rfl rfl (fun W_ hW_ F_ => rfl) ?_
        refine t_gis (c := true) (.bool true) rfl rfl rfl rfl rfl rfl rfl (fun W_ hW_ F_ => (by simp [go_sem, sEv, sLook, nbeq, i64_w, -List.getD_eq_getElem?_getD])) ?_
        refine ts (.bool true) ?_
        refine tr (.bool true) ?_
        refine t_gis (c := true) (.agg #[.int .i64 n.kind, .int .i64 n.fr, .int .i64 n.tw, .slice A16 n.nums.length c17, .slice A18 n.ops.length c19, .slice A20 n.ents.length c21]) rfl rfl rfl rfl rfl rfl rfl (fun W_ hW_ F_ => by have eb_ := (((hk32.on hb55).on hb60).on (below_of_drew hW_)); have e0_ := eb_.cellv (i := 0) (v := (.int .i64 n.kind : Value)) rfl; have e1_ := eb_.cellv (i := 1) (v := (.int .i64 n.fr : Value)) rfl; have e2_ := eb_.cellv (i := 2) (v := (.int .i64 n.tw : Value)) rfl; have e3_ := eb_.cellv (i := 3) (v := (.slice A16 n.nums.length c17 : Value)) rfl; have e4_ := eb_.cellv (i := 4) (v := (.slice A18 n.ops.length c19 : Value)) rfl; have e5_ := eb_.cellv (i := 5) (v := (.slice A20 n.ents.length c21 : Value)) rfl; simp [go_sem, sEv, sLook, nbeq, i64_w, -List.getD_eq_getElem?_getD, e0_, e1_, e2_, e3_, e4_, e5_, Try.underlying26]) ?_
        refine t_gcall (c := true) (f := 15) (args := #[.agg #[.int .i64 n.kind, .int .i64 n.fr, .int .i64 n.tw, .slice A16 n.nums.length c17, .slice A18 n.ops.length c19, .slice A20 n.ents.length c21]]) (Is (.nilIface)) rfl rfl rfl rfl rfl rfl rfl (fun W_ => by simp [go_sem, sEv, sLook, nbeq, i64_w, -List.getD_eq_getElem?_getD]) (fun W_ hW_ F_ => ?_) ?_
        · refine (check_yes W_ n A16 c17 A18 c19 A20 c21 (Kd.C_below (OwnK.front (d := (Kd.int .i64)) hO13) (chain (chain (chain (hk31.below (by omega) hb26) hb55) hb60) (below_of_drew hW_))) (show n.nums.length ≤ c17 by have q_ := OwnK.cap (d := (Kd.int .i64)) hO13; omega) (Kd.C_below (OwnK.C (d := kOp) hO14) (chain (chain (chain (hk31.below (by omega) hb26) hb55) hb60) (below_of_drew hW_))) (OwnK.cap (d := kOp) hO14) (Kd.C_below (OwnK.C (d := kEntry) hO15) (chain (chain (chain (hk31.below (by omega) hb26) hb55) hb60) (below_of_drew hW_))) (OwnK.cap (d := kEntry) hO15) (by omega) (by omega) (by omega) hg_).mono ?_
          rintro e_ w_ ⟨rfl, hb_⟩
          exact ⟨_, rfl, rfl, hb_⟩
        rintro _ rfl
        refine t_gis (c := true) (.bool ((none : Option Int).isNone)) rfl rfl rfl rfl rfl rfl rfl (fun W_ hW_ F_ => (run_as (guard_err_eq0 _ (none : Option Int) _))) ?_
        refine t_gis (c := true) (.agg #[.int .i64 n.kind, .int .i64 n.fr, .int .i64 n.tw, .slice A3 n.nums.length c3, .slice A4 n.ops.length c4, .slice A5 n.ents.length c5]) rfl rfl rfl rfl rfl rfl rfl (fun W_ hW_ F_ => by have eb_ := ((((((((hk4.on hb8).on hb10).on hb23).on hb26).keep hk31 (by omega)).on hb55).on hb60).on (below_of_drew hW_)); have e0_ := eb_.cellv (i := 0) (v := (.int .i64 n.kind : Value)) rfl; have e1_ := eb_.cellv (i := 1) (v := (.int .i64 n.fr : Value)) rfl; have e2_ := eb_.cellv (i := 2) (v := (.int .i64 n.tw : Value)) rfl; have e3_ := eb_.cellv (i := 3) (v := (.slice A3 n.nums.length c3 : Value)) rfl; have e4_ := eb_.cellv (i := 4) (v := (.slice A4 n.ops.length c4 : Value)) rfl; have e5_ := eb_.cellv (i := 5) (v := (.slice A5 n.ents.length c5 : Value)) rfl; simp [go_sem, sEv, sLook, nbeq, i64_w, -List.getD_eq_getElem?_getD, e0_, e1_, e2_, e3_, e4_, e5_, Try.underlying26]) ?_
        refine t_gcall (c := true) (f := 16) (args := #[.agg #[.int .i64 n.kind, .int .i64 n.fr, .int .i64 n.tw, .slice A3 n.nums.length c3, .slice A4 n.ops.length c4, .slice A5 n.ents.length c5]]) (Is (.bool true)) rfl rfl rfl rfl rfl rfl rfl (fun W_ => by simp [go_sem, sEv, sLook, nbeq, i64_w, -List.getD_eq_getElem?_getD]) (fun W_ hW_ F_ => ?_) ?_
        · refine (good_x W_ n A3 c3 A4 c4 A5 c5 (Kd.C_below hn3 (chain (chain (chain (hk31.below (by omega) (chain (chain (chain (chain hb3 hb8) hb10) hb23) hb26)) hb55) hb60) (below_of_drew hW_))) hc3 (Kd.C_below hn4 (chain (chain (chain (hk31.below (by omega) (chain (chain (chain (chain hb3 hb8) hb10) hb23) hb26)) hb55) hb60) (below_of_drew hW_))) hc4 (Kd.C_below hn5 (chain (chain (chain (hk31.below (by omega) (chain (chain (chain (chain hb3 hb8) hb10) hb23) hb26)) hb55) hb60) (below_of_drew hW_))) hc5 (by omega) (by omega) (by omega) hg_).mono ?_
          rintro e_ w_ ⟨rfl, hb_⟩
          exact ⟨_, rfl, rfl, hb_⟩
        rintro _ rfl
        have hq64 : ((none : Option Int).isNone) = true := by rfl
        refine t_gis (c := true) (.bool true) rfl rfl rfl rfl rfl rfl rfl (fun W_ hW_ F_ => (by simp [go_sem, sEv, sLook, nbeq, i64_w, -List.getD_eq_getElem?_getD])) ?_
        refine ts (.bool true) ?_
        refine tr (.bool true) ?_
        refine t_gis (c := true) (.agg #[.int .i64 n.kind, .int .i64 n.fr, .int .i64 n.tw, .slice A16 n.nums.length c17, .slice A18 n.ops.length c19, .slice A20 n.ents.length c21]) rfl rfl rfl rfl rfl rfl rfl (fun W_ hW_ F_ => by have eb_ := (((hk32.on hb55).on hb60).on (below_of_drew hW_)); have e0_ := eb_.cellv (i := 0) (v := (.int .i64 n.kind : Value)) rfl; have e1_ := eb_.cellv (i := 1) (v := (.int .i64 n.fr : Value)) rfl; have e2_ := eb_.cellv (i := 2) (v := (.int .i64 n.tw : Value)) rfl; have e3_ := eb_.cellv (i := 3) (v := (.slice A16 n.nums.length c17 : Value)) rfl; have e4_ := eb_.cellv (i := 4) (v := (.slice A18 n.ops.length c19 : Value)) rfl; have e5_ := eb_.cellv (i := 5) (v := (.slice A20 n.ents.length c21 : Value)) rfl; simp [go_sem, sEv, sLook, nbeq, i64_w, -List.getD_eq_getElem?_getD, e0_, e1_, e2_, e3_, e4_, e5_, Try.underlying26]) ?_
        refine t_gis (c := true) (.agg #[.int .i64 n.kind, .int .i64 n.fr, .int .i64 n.tw, .slice A3 n.nums.length c3, .slice A4 n.ops.length c4, .slice A5 n.ents.length c5]) rfl rfl rfl rfl rfl rfl rfl (fun W_ hW_ F_ => by have eb_ := ((((((((hk4.on hb8).on hb10).on hb23).on hb26).keep hk31 (by omega)).on hb55).on hb60).on (below_of_drew hW_)); have e0_ := eb_.cellv (i := 0) (v := (.int .i64 n.kind : Value)) rfl; have e1_ := eb_.cellv (i := 1) (v := (.int .i64 n.fr : Value)) rfl; have e2_ := eb_.cellv (i := 2) (v := (.int .i64 n.tw : Value)) rfl; have e3_ := eb_.cellv (i := 3) (v := (.slice A3 n.nums.length c3 : Value)) rfl; have e4_ := eb_.cellv (i := 4) (v := (.slice A4 n.ops.length c4 : Value)) rfl; have e5_ := eb_.cellv (i := 5) (v := (.slice A5 n.ents.length c5 : Value)) rfl; simp [go_sem, sEv, sLook, nbeq, i64_w, -List.getD_eq_getElem?_getD, e0_, e1_, e2_, e3_, e4_, e5_, Try.underlying26]) ?_
        refine t_gcall (c := true) (f := 17) (args := #[.agg #[.int .i64 n.kind, .int .i64 n.fr, .int .i64 n.tw, .slice A16 n.nums.length c17, .slice A18 n.ops.length c19, .slice A20 n.ents.length c21], .agg #[.int .i64 n.kind, .int .i64 n.fr, .int .i64 n.tw, .slice A3 n.nums.length c3, .slice A4 n.ops.length c4, .slice A5 n.ents.length c5]]) (Is (.bool true)) rfl rfl rfl rfl rfl rfl rfl (fun W_ => by simp [go_sem, sEv, sLook, nbeq, i64_w, -List.getD_eq_getElem?_getD]) (fun W_ hW_ F_ => ?_) ?_
        · refine (rsame_self W_ n A16 c17 A18 c19 A20 c21 (Kd.C_below (OwnK.front (d := (Kd.int .i64)) hO13) (chain (chain (chain (hk31.below (by omega) hb26) hb55) hb60) (below_of_drew hW_))) (show n.nums.length ≤ c17 by have q_ := OwnK.cap (d := (Kd.int .i64)) hO13; omega) (by omega) (Kd.C_below (OwnK.C (d := kOp) hO14) (chain (chain (chain (hk31.below (by omega) hb26) hb55) hb60) (below_of_drew hW_))) (OwnK.cap (d := kOp) hO14) (by omega) (Kd.C_below (OwnK.C (d := kEntry) hO15) (chain (chain (chain (hk31.below (by omega) hb26) hb55) hb60) (below_of_drew hW_))) (OwnK.cap (d := kEntry) hO15) (by omega) A3 c3 A4 c4 A5 c5 (Kd.C_below hn3 (chain (chain (chain (hk31.below (by omega) (chain (chain (chain (chain hb3 hb8) hb10) hb23) hb26)) hb55) hb60) (below_of_drew hW_))) hc3 (by omega) (Kd.C_below hn4 (chain (chain (chain (hk31.below (by omega) (chain (chain (chain (chain hb3 hb8) hb10) hb23) hb26)) hb55) hb60) (below_of_drew hW_))) hc4 (by omega) (Kd.C_below hn5 (chain (chain (chain (hk31.below (by omega) (chain (chain (chain (chain hb3 hb8) hb10) hb23) hb26)) hb55) hb60) (below_of_drew hW_))) hc5 (by omega)).mono ?_
          rintro e_ w_ ⟨rfl, hb_⟩
          exact ⟨_, rfl, rfl, hb_⟩
        rintro _ rfl
        refine ts (.bool true) ?_
        refine tr (.bool true) ?_
        refine t_gis (c := true) (.pointer (some ⟨g24, 3, none⟩)) rfl rfl rfl rfl rfl rfl rfl (fun W_ hW_ F_ => by simp [go_sem, sEv, sLook, nbeq, i64_w, -List.getD_eq_getElem?_getD, Try.underlying26]) ?_
        refine t_gis (c := true) (.slice A16 n.nums.length c17) rfl rfl rfl rfl rfl rfl rfl (fun W_ hW_ F_ => by have eb_ := (((hk32.on hb55).on hb60).on (below_of_drew hW_)); have e0_ := eb_.cellv (i := 3) (v := (.slice A16 n.nums.length c17 : Value)) rfl; simp [go_sem, sEv, sLook, nbeq, i64_w, -List.getD_eq_getElem?_getD, e0_, Try.underlying22]) ?_
        refine t_gis (c := true) (.pointer (some ⟨g24, 3, none⟩)) rfl rfl rfl rfl rfl rfl rfl (fun W_ hW_ F_ => by simp [go_sem, sEv, sLook, nbeq, i64_w, -List.getD_eq_getElem?_getD, Try.underlying26]) ?_
        refine t_gis (c := true) (.slice A16 n.nums.length c17) rfl rfl rfl rfl rfl rfl rfl (fun W_ hW_ F_ => by have eb_ := (((hk32.on hb55).on hb60).on (below_of_drew hW_)); have e0_ := eb_.cellv (i := 3) (v := (.slice A16 n.nums.length c17 : Value)) rfl; simp [go_sem, sEv, sLook, nbeq, i64_w, -List.getD_eq_getElem?_getD, e0_, Try.underlying22]) ?_
        refine t_gis (c := true) (.int .i64 ((n.nums.length : Nat) : Int)) rfl rfl rfl rfl rfl rfl rfl (fun W_ hW_ F_ => (by simp [go_sem, sEv, sLook, nbeq, i64_w, -List.getD_eq_getElem?_getD])) ?_
        refine t_gis (c := true) (.int .i64 ((n.nums.length + 1 : Nat) : Int)) rfl rfl rfl rfl rfl rfl rfl (fun W_ hW_ F_ => by simp [go_sem, sEv, sLook, nbeq, i64_w, -List.getD_eq_getElem?_getD]; exact wrap_id (by omega) (by omega)) ?_
        refine t_gis (c := true) (.slice A16 (n.nums.length + 1) c17) rfl rfl rfl rfl rfl rfl rfl (fun W_ hW_ F_ => (run_as (sl_to (sz := 1) (e := 3) (by kernel_rfl) (fun _ => by kernel_rfl) (n.nums.length + 1) _ (by first | rfl | (simp; done) | omega) (by have q_ := OwnK.cap (d := (Kd.int .i64)) hO13; omega) _))) ?_
        refine t_gis (c := true) (.pointer (some ⟨g24, 3, none⟩)) rfl rfl rfl rfl rfl rfl rfl (fun W_ hW_ F_ => by simp [go_sem, sEv, sLook, nbeq, i64_w, -List.getD_eq_getElem?_getD, Try.underlying26]) ?_
        refine t_gis (c := true) (.slice A16 n.nums.length c17) rfl rfl rfl rfl rfl rfl rfl (fun W_ hW_ F_ => by have eb_ := (((hk32.on hb55).on hb60).on (below_of_drew hW_)); have e0_ := eb_.cellv (i := 3) (v := (.slice A16 n.nums.length c17 : Value)) rfl; simp [go_sem, sEv, sLook, nbeq, i64_w, -List.getD_eq_getElem?_getD, e0_, Try.underlying22]) ?_
        refine t_gis (c := true) (.int .i64 ((n.nums.length : Nat) : Int)) rfl rfl rfl rfl rfl rfl rfl (fun W_ hW_ F_ => (by simp [go_sem, sEv, sLook, nbeq, i64_w, -List.getD_eq_getElem?_getD])) ?_
        refine t_tail ?_
        intro w66 hb67_ F68
        have hb67 := below_of_drew hb67_
        have hs_w66 := hb67.size
        clear F68
        refine rn true ?_
        obtain ⟨ad69, hA70, hc71⟩ := int_at (Kd.C_below hP65 hb67) 0 n.nums.length (by first | omega | decide)
        subst hA70
        have he72 : w66.cell? (ad69.add (n.nums.length)) = some (.int .i64 ((n.nums ++ [(-77)]).getD n.nums.length 0)) := cell_0 (hc71 0 _ rfl)
        refine rz (.pointer (some (ad69.add (n.nums.length)))) (run_as (run_at_1 (P := Try.prog) (e := 3) (by kernel_rfl) (by kernel_rfl) n.nums.length (by first | omega | decide) _)) ?_
        refine rn true ?_
        refine rz (.int .i64 ((n.nums ++ [(-77)]).getD n.nums.length 0)) (by have e0_ := cellOn he72 (Below.refl _ _); simp [go_sem, sEv, sLook, nbeq, i64_w, -List.getD_eq_getElem?_getD, e0_]) ?_
        refine rn true ?_
        refine rs (.bool (((n.nums ++ [(-77)]).getD n.nums.length 0) == (-77))) ?_
        refine rs (.bool (((n.nums ++ [(-77)]).getD n.nums.length 0) == (-77))) ?_
        refine rv (.bool (((n.nums ++ [(-77)]).getD n.nums.length 0) == (-77))) ?_
        refine rw_end ?_
        refine w_weaken (G' := [(2, .bool (((n.nums ++ [(-77)]).getD n.nums.length 0) == (-77)))]) ⟨rfl, trivial⟩ ?_
        have hq73 : (((n.nums ++ [(-77)]).getD n.nums.length 0) == (-77)) = true := by simp [List.getD_eq_getElem?_getD]
        refine w_ret (post_ret1 rfl rfl ?_)
        exact ⟨by first | rfl | (simp [hq73]; done) | (simp_all; done), (chain (chain (chain (hk31.below (by omega) (chain (chain (chain (chain hb3 hb8) hb10) hb23) hb26)) hb55) hb60) hb67)⟩
end Go.Proofs.Ytbbhdohjhipalaa.Ce
end
