/- The document's tape: the walks. -/
import Derived.Test.YtpbpeklbmmbigaaTpRef
namespace Go.Proofs.Ytpbpeklbmmbigaa.Tp
open Go.RowKit Go.Proofs.YtpbpeklbmmbigaaW.PrintWords Go.Proofs.YtpbpeklbmmbigaaW.PrintLast Go.Proofs.YtpbpeklbmmbigaaW.PrintMore
open Go.Proofs.Ytpbpeklbmmbigaa.Flow
set_option linter.unusedVariables false
set_option linter.unusedSimpArgs false

set_option maxHeartbeats 4000000 in
theorem rstep (w : World) (u : Nat) (r : RS) (hst : 0 ≤ r.st ∧ r.st ≤ 999999999) (hl : 0 ≤ r.l ∧ r.l ≤ 9223372036854775807) (hu_ : 0 ≤ r.u ∧ r.u ≤ 9223372036854775807) (hn : r.S.length + r.R.length ≤ 1048576) (hb : Blk w u 51 (rcells r)) :
    Calls Try.prog 39 #[.pointer (some ⟨u, 0, none⟩)] w fun e w' => e = .returned (.int .i64 r.err) ∧ Grow u w w' ∧ Blk w' u 51 (rcells r.next) := by
  refine calls_flow Try.func39 rfl 55 rfl (Nat.le_of_ble_eq_true rfl) [(0, .pointer (some ⟨u, 0, none⟩))] ?_ ?_
  · intro t v h; exact args_look rfl t v h
  refine w_seq ?_
  refine w_region ?_
  refine rw_val (v := .int .i64 0) (w' := w) rfl rfl rfl rfl rfl ?_
  refine rw_end ?_
  refine w_seq ?_
  refine w_seq ?_
  refine w_region ?_
  refine rw_val (v := .pointer (some ⟨u, 0, none⟩)) (w' := w) rfl rfl rfl rfl rfl ?_
  refine rw_val (v := .pointer (some ⟨u, 0, none⟩)) (w' := w) rfl rfl rfl rfl (by simp [go_sem, sEv, sLook, nbeq, i64_w, -List.getD_eq_getElem?_getD]) ?_
  refine rw_val (v := .pointer (some ⟨u, 7, none⟩)) (w' := w) rfl rfl rfl rfl (by simp [go_sem, sEv, sLook, nbeq, i64_w, -List.getD_eq_getElem?_getD, Try.underlying51]) ?_
  refine rw_val (v := .bool r.d) (w' := w) rfl rfl rfl rfl (by have eb_ := hb; have e0_ := eb_.cellv (i := 7) (v := (.bool r.d : Value)) rfl; simp [go_sem, sEv, sLook, nbeq, i64_w, -List.getD_eq_getElem?_getD, e0_]) ?_
  refine rw_end ?_
  refine w_weaken (G' := [(0, .pointer (some ⟨u, 0, none⟩)), (2, .int .i64 0), (6, .bool r.d)]) ⟨rfl, rfl, rfl, trivial⟩ ?_
  refine w_cond rfl rfl (fun cD => ?_) (fun cD => ?_)
  · refine w_seq ?_
    refine w_region ?_
    refine rw_val (v := .int .i64 5) (w' := w) rfl rfl rfl rfl rfl ?_
    refine rw_end ?_
    refine w_ret (post_ret1 rfl rfl ?_)
    have e1_ : r.err = 5 := by unfold RS.err; simp [cD]
    rw [e1_]
    have e2_ : r.next = (⟨r.S, r.R, r.st, r.a, r.b, r.l, r.u, r.d⟩ : RS) := by rw [RS.next, if_pos cD]
    rw [e2_]
    exact ⟨rfl, (Grow.refl _ _), hb⟩
  · refine w_skip ?_
    refine w_seq ?_
    refine w_seq ?_
    refine w_region ?_
    refine rw_val (v := .pointer (some ⟨u, 0, none⟩)) (w' := w) rfl rfl rfl rfl rfl ?_
    refine rw_val (v := .pointer (some ⟨u, 0, none⟩)) (w' := w) rfl rfl rfl rfl (by simp [go_sem, sEv, sLook, nbeq, i64_w, -List.getD_eq_getElem?_getD]) ?_
    refine rw_val (v := .pointer (some ⟨u, 3, none⟩)) (w' := w) rfl rfl rfl rfl (by simp [go_sem, sEv, sLook, nbeq, i64_w, -List.getD_eq_getElem?_getD, Try.underlying51]) ?_
    refine rw_val (v := .bool r.a) (w' := w) rfl rfl rfl rfl (by have eb_ := hb; have e0_ := eb_.cellv (i := 3) (v := (.bool r.a : Value)) rfl; simp [go_sem, sEv, sLook, nbeq, i64_w, -List.getD_eq_getElem?_getD, e0_]) ?_
    refine rw_end ?_
    refine w_weaken (G' := [(0, .pointer (some ⟨u, 0, none⟩)), (2, .int .i64 0), (10, .bool r.a)]) ⟨rfl, rfl, rfl, trivial⟩ ?_
    refine w_cond rfl rfl (fun cA => ?_) (fun cA => ?_)
    · refine w_seq ?_
      refine w_seq ?_
      refine w_region ?_
      refine rw_val (v := .pointer (some ⟨u, 0, none⟩)) (w' := w) rfl rfl rfl rfl rfl ?_
      refine rw_val (v := .pointer (some ⟨u, 0, none⟩)) (w' := w) rfl rfl rfl rfl (by simp [go_sem, sEv, sLook, nbeq, i64_w, -List.getD_eq_getElem?_getD]) ?_
      refine rw_val (v := .pointer (some ⟨u, 5, none⟩)) (w' := w) rfl rfl rfl rfl (by simp [go_sem, sEv, sLook, nbeq, i64_w, -List.getD_eq_getElem?_getD, Try.underlying51]) ?_
      refine rw_val (v := .int .i64 r.l) (w' := w) rfl rfl rfl rfl (by have eb_ := hb; have e0_ := eb_.cellv (i := 5) (v := (.int .i64 r.l : Value)) rfl; simp [go_sem, sEv, sLook, nbeq, i64_w, -List.getD_eq_getElem?_getD, e0_]) ?_
      refine rw_val (v := .bool (r.l == 0)) (w' := w) rfl rfl rfl rfl (by simp [go_sem, sEv, sLook, nbeq, i64_w, -List.getD_eq_getElem?_getD]) ?_
      refine rw_end ?_
      refine w_weaken (G' := [(0, .pointer (some ⟨u, 0, none⟩)), (2, .int .i64 0), (15, .bool (r.l == 0))]) ⟨rfl, rfl, rfl, trivial⟩ ?_
      refine w_cond rfl rfl (fun cL => ?_) (fun cL => ?_)
      · have l1 : r.l = 0 := by simpa using cL
        refine w_seq ?_
        refine w_region ?_
        refine rw_val (v := .pointer (some ⟨u, 0, none⟩)) (w' := w) rfl rfl rfl rfl rfl ?_
        refine rw_val (v := .pointer (some ⟨u, 0, none⟩)) (w' := w) rfl rfl rfl rfl (by simp [go_sem, sEv, sLook, nbeq, i64_w, -List.getD_eq_getElem?_getD]) ?_
        refine rw_val (v := .pointer (some ⟨u, 7, none⟩)) (w' := w) rfl rfl rfl rfl (by simp [go_sem, sEv, sLook, nbeq, i64_w, -List.getD_eq_getElem?_getD, Try.underlying51]) ?_
        have hb5 := hb
        refine rw_store (g := u) (i := 7) (l := [.bool true]) (cs' := #[.string (strOfNums r.S), .string (strOfNums r.R), .int .i64 r.st, .bool r.a, .bool r.b, .int .i64 r.l, .int .i64 r.u, .bool true]) rfl rfl rfl hb5 rfl (by have e0_ := hb5.cellv (i := 7) (v := (.bool r.d : Value)) rfl; have f0_ := hb5.frozen 7; simp [go_sem, sEv, sLook, nbeq, i64_w, -List.getD_eq_getElem?_getD, putCells, e0_, f0_]) ?_
        intro w2 hk3 hk4
        have hs_w2 := hk3.size
        refine rw_end ?_
        refine w_weaken (G' := [(0, .pointer (some ⟨u, 0, none⟩)), (2, .int .i64 0)]) ⟨rfl, rfl, trivial⟩ ?_
        refine w_seq ?_
        refine w_region ?_
        refine rw_val (v := .int .i64 5) (w' := w2) rfl rfl rfl rfl rfl ?_
        refine rw_end ?_
        refine w_ret (post_ret1 rfl rfl ?_)
        have e1_ : r.err = 5 := by unfold RS.err; simp [cD, cA, cL]
        rw [e1_]
        have e2_ : r.next = (⟨r.S, r.R, r.st, r.a, r.b, r.l, r.u, true⟩ : RS) := by rw [RS.next, if_neg (by simp [cD]), if_pos (by simp [cA, cL])]
        rw [e2_]
        exact ⟨rfl, (Grow.ofK hk3), hk4⟩
      · have l6 : ¬ r.l = 0 := by simpa using cL
        refine w_skip ?_
        refine w_region ?_
        refine rw_val (v := .pointer (some ⟨u, 0, none⟩)) (w' := w) rfl rfl rfl rfl rfl ?_
        refine rw_val (v := .pointer (some ⟨u, 0, none⟩)) (w' := w) rfl rfl rfl rfl rfl ?_
        refine rw_val (v := .pointer (some ⟨u, 0, none⟩)) (w' := w) rfl rfl rfl rfl (by simp [go_sem, sEv, sLook, nbeq, i64_w, -List.getD_eq_getElem?_getD]) ?_
        refine rw_val (v := .pointer (some ⟨u, 5, none⟩)) (w' := w) rfl rfl rfl rfl (by simp [go_sem, sEv, sLook, nbeq, i64_w, -List.getD_eq_getElem?_getD, Try.underlying51]) ?_
        refine rw_val (v := .int .i64 r.l) (w' := w) rfl rfl rfl rfl (by have eb_ := hb; have e0_ := eb_.cellv (i := 5) (v := (.int .i64 r.l : Value)) rfl; simp [go_sem, sEv, sLook, nbeq, i64_w, -List.getD_eq_getElem?_getD, e0_]) ?_
        refine rw_val (v := .int .i64 (r.l - 1)) (w' := w) rfl rfl rfl rfl (by simp [go_sem, sEv, sLook, nbeq, i64_w, -List.getD_eq_getElem?_getD]; exact wrap_id (by omega) (by omega)) ?_
        refine rw_val (v := .pointer (some ⟨u, 0, none⟩)) (w' := w) rfl rfl rfl rfl (by simp [go_sem, sEv, sLook, nbeq, i64_w, -List.getD_eq_getElem?_getD]) ?_
        refine rw_val (v := .pointer (some ⟨u, 5, none⟩)) (w' := w) rfl rfl rfl rfl (by simp [go_sem, sEv, sLook, nbeq, i64_w, -List.getD_eq_getElem?_getD, Try.underlying51]) ?_
        have hb10 := hb
        refine rw_store (g := u) (i := 5) (l := [.int .i64 (r.l - 1)]) (cs' := #[.string (strOfNums r.S), .string (strOfNums r.R), .int .i64 r.st, .bool r.a, .bool r.b, .int .i64 (r.l - 1), .int .i64 r.u, .bool r.d]) rfl rfl rfl hb10 rfl (by have e0_ := hb10.cellv (i := 5) (v := (.int .i64 r.l : Value)) rfl; have f0_ := hb10.frozen 5; simp [go_sem, sEv, sLook, nbeq, i64_w, -List.getD_eq_getElem?_getD, putCells, e0_, f0_]) ?_
        intro w7 hk8 hk9
        have hs_w7 := hk8.size
        refine rw_end ?_
        refine w_weaken (G' := [(0, .pointer (some ⟨u, 0, none⟩)), (2, .int .i64 0)]) ⟨rfl, rfl, trivial⟩ ?_
        refine w_seq ?_
        refine w_region ?_
        refine rw_val (v := .pointer (some ⟨u, 0, none⟩)) (w' := w7) rfl rfl rfl rfl rfl ?_
        refine rw_val (v := .pointer (some ⟨u, 0, none⟩)) (w' := w7) rfl rfl rfl rfl rfl ?_
        refine rw_val (v := .pointer (some ⟨u, 0, none⟩)) (w' := w7) rfl rfl rfl rfl (by simp [go_sem, sEv, sLook, nbeq, i64_w, -List.getD_eq_getElem?_getD]) ?_
        refine rw_val (v := .pointer (some ⟨u, 2, none⟩)) (w' := w7) rfl rfl rfl rfl (by simp [go_sem, sEv, sLook, nbeq, i64_w, -List.getD_eq_getElem?_getD, Try.underlying51]) ?_
        refine rw_val (v := .int .i64 r.st) (w' := w7) rfl rfl rfl rfl (by have eb_ := hk9; have e0_ := eb_.cellv (i := 2) (v := (.int .i64 r.st : Value)) rfl; simp [go_sem, sEv, sLook, nbeq, i64_w, -List.getD_eq_getElem?_getD, e0_]) ?_
        refine rw_val (v := .int .i64 (r.st + 1)) (w' := w7) rfl rfl rfl rfl (by simp [go_sem, sEv, sLook, nbeq, i64_w, -List.getD_eq_getElem?_getD]; exact wrap_id (by omega) (by omega)) ?_
        refine rw_val (v := .pointer (some ⟨u, 0, none⟩)) (w' := w7) rfl rfl rfl rfl (by simp [go_sem, sEv, sLook, nbeq, i64_w, -List.getD_eq_getElem?_getD]) ?_
        refine rw_val (v := .pointer (some ⟨u, 2, none⟩)) (w' := w7) rfl rfl rfl rfl (by simp [go_sem, sEv, sLook, nbeq, i64_w, -List.getD_eq_getElem?_getD, Try.underlying51]) ?_
        have hb14 := hk9
        refine rw_store (g := u) (i := 2) (l := [.int .i64 (r.st + 1)]) (cs' := #[.string (strOfNums r.S), .string (strOfNums r.R), .int .i64 (r.st + 1), .bool r.a, .bool r.b, .int .i64 (r.l - 1), .int .i64 r.u, .bool r.d]) rfl rfl rfl hb14 rfl (by have e0_ := hb14.cellv (i := 2) (v := (.int .i64 r.st : Value)) rfl; have f0_ := hb14.frozen 2; simp [go_sem, sEv, sLook, nbeq, i64_w, -List.getD_eq_getElem?_getD, putCells, e0_, f0_]) ?_
        intro w11 hk12 hk13
        have hs_w11 := hk12.size
        refine rw_end ?_
        refine w_weaken (G' := [(0, .pointer (some ⟨u, 0, none⟩)), (2, .int .i64 0)]) ⟨rfl, rfl, trivial⟩ ?_
        refine w_seq ?_
        refine w_seq ?_
        refine w_region ?_
        refine rw_val (v := .pointer (some ⟨u, 0, none⟩)) (w' := w11) rfl rfl rfl rfl rfl ?_
        refine rw_val (v := .pointer (some ⟨u, 0, none⟩)) (w' := w11) rfl rfl rfl rfl (by simp [go_sem, sEv, sLook, nbeq, i64_w, -List.getD_eq_getElem?_getD]) ?_
        refine rw_val (v := .pointer (some ⟨u, 4, none⟩)) (w' := w11) rfl rfl rfl rfl (by simp [go_sem, sEv, sLook, nbeq, i64_w, -List.getD_eq_getElem?_getD, Try.underlying51]) ?_
        refine rw_val (v := .bool r.b) (w' := w11) rfl rfl rfl rfl (by have eb_ := hk13; have e0_ := eb_.cellv (i := 4) (v := (.bool r.b : Value)) rfl; simp [go_sem, sEv, sLook, nbeq, i64_w, -List.getD_eq_getElem?_getD, e0_]) ?_
        refine rw_end ?_
        refine w_weaken (G' := [(0, .pointer (some ⟨u, 0, none⟩)), (2, .int .i64 0), (38, .bool r.b)]) ⟨rfl, rfl, rfl, trivial⟩ ?_
        refine w_cond rfl rfl (fun cB => ?_) (fun cB => ?_)
        · refine w_seq ?_
          refine w_seq ?_
          refine w_region ?_
          refine rw_val (v := .pointer (some ⟨u, 0, none⟩)) (w' := w11) rfl rfl rfl rfl rfl ?_
          refine rw_val (v := .pointer (some ⟨u, 0, none⟩)) (w' := w11) rfl rfl rfl rfl (by simp [go_sem, sEv, sLook, nbeq, i64_w, -List.getD_eq_getElem?_getD]) ?_
          refine rw_val (v := .pointer (some ⟨u, 6, none⟩)) (w' := w11) rfl rfl rfl rfl (by simp [go_sem, sEv, sLook, nbeq, i64_w, -List.getD_eq_getElem?_getD, Try.underlying51]) ?_
          refine rw_val (v := .int .i64 r.u) (w' := w11) rfl rfl rfl rfl (by have eb_ := hk13; have e0_ := eb_.cellv (i := 6) (v := (.int .i64 r.u : Value)) rfl; simp [go_sem, sEv, sLook, nbeq, i64_w, -List.getD_eq_getElem?_getD, e0_]) ?_
          refine rw_val (v := .bool (r.u == 0)) (w' := w11) rfl rfl rfl rfl (by simp [go_sem, sEv, sLook, nbeq, i64_w, -List.getD_eq_getElem?_getD]) ?_
          refine rw_end ?_
          refine w_weaken (G' := [(0, .pointer (some ⟨u, 0, none⟩)), (2, .int .i64 0), (43, .bool (r.u == 0))]) ⟨rfl, rfl, rfl, trivial⟩ ?_
          refine w_cond rfl rfl (fun cU => ?_) (fun cU => ?_)
          · have l15 : r.u = 0 := by simpa using cU
            refine w_seq ?_
            refine w_region ?_
            refine rw_val (v := .pointer (some ⟨u, 0, none⟩)) (w' := w11) rfl rfl rfl rfl rfl ?_
            refine rw_val (v := .pointer (some ⟨u, 0, none⟩)) (w' := w11) rfl rfl rfl rfl (by simp [go_sem, sEv, sLook, nbeq, i64_w, -List.getD_eq_getElem?_getD]) ?_
            refine rw_val (v := .pointer (some ⟨u, 4, none⟩)) (w' := w11) rfl rfl rfl rfl (by simp [go_sem, sEv, sLook, nbeq, i64_w, -List.getD_eq_getElem?_getD, Try.underlying51]) ?_
            have hb19 := hk13
            refine rw_store (g := u) (i := 4) (l := [.bool false]) (cs' := #[.string (strOfNums r.S), .string (strOfNums r.R), .int .i64 (r.st + 1), .bool r.a, .bool false, .int .i64 (r.l - 1), .int .i64 r.u, .bool r.d]) rfl rfl rfl hb19 rfl (by have e0_ := hb19.cellv (i := 4) (v := (.bool r.b : Value)) rfl; have f0_ := hb19.frozen 4; simp [go_sem, sEv, sLook, nbeq, i64_w, -List.getD_eq_getElem?_getD, putCells, e0_, f0_]) ?_
            intro w16 hk17 hk18
            have hs_w16 := hk17.size
            refine rw_end ?_
            refine w_weaken (G' := [(0, .pointer (some ⟨u, 0, none⟩)), (2, .int .i64 0)]) ⟨rfl, rfl, trivial⟩ ?_
            refine w_seq ?_
            refine w_region ?_
            refine rw_val (v := .int .i64 6) (w' := w16) rfl rfl rfl rfl rfl ?_
            refine rw_end ?_
            refine w_ret (post_ret1 rfl rfl ?_)
            have e1_ : r.err = 6 := by unfold RS.err; simp [cD, cA, cL, cB, cU]
            rw [e1_]
            have e2_ : r.next = (⟨r.S, r.R, (r.st + 1), r.a, false, (r.l - 1), r.u, r.d⟩ : RS) := by have d1_ : duel r.a r.l = (r.l - 1) := (by unfold duel; simp [cA, cL]); rw [RS.next, if_neg (by simp [cD]), if_neg (by simp [cA, cL]), if_pos (by simp [cB, cU]), d1_]
            rw [e2_]
            exact ⟨rfl, (((Grow.ofK hk8).trans (Grow.ofK hk12)).trans (Grow.ofK hk17)), hk18⟩
          · have l20 : ¬ r.u = 0 := by simpa using cU
            refine w_skip ?_
            refine w_region ?_
            refine rw_val (v := .pointer (some ⟨u, 0, none⟩)) (w' := w11) rfl rfl rfl rfl rfl ?_
            refine rw_val (v := .pointer (some ⟨u, 0, none⟩)) (w' := w11) rfl rfl rfl rfl rfl ?_
            refine rw_val (v := .pointer (some ⟨u, 0, none⟩)) (w' := w11) rfl rfl rfl rfl (by simp [go_sem, sEv, sLook, nbeq, i64_w, -List.getD_eq_getElem?_getD]) ?_
            refine rw_val (v := .pointer (some ⟨u, 6, none⟩)) (w' := w11) rfl rfl rfl rfl (by simp [go_sem, sEv, sLook, nbeq, i64_w, -List.getD_eq_getElem?_getD, Try.underlying51]) ?_
            refine rw_val (v := .int .i64 r.u) (w' := w11) rfl rfl rfl rfl (by have eb_ := hk13; have e0_ := eb_.cellv (i := 6) (v := (.int .i64 r.u : Value)) rfl; simp [go_sem, sEv, sLook, nbeq, i64_w, -List.getD_eq_getElem?_getD, e0_]) ?_
            refine rw_val (v := .int .i64 (r.u - 1)) (w' := w11) rfl rfl rfl rfl (by simp [go_sem, sEv, sLook, nbeq, i64_w, -List.getD_eq_getElem?_getD]; exact wrap_id (by omega) (by omega)) ?_
            refine rw_val (v := .pointer (some ⟨u, 0, none⟩)) (w' := w11) rfl rfl rfl rfl (by simp [go_sem, sEv, sLook, nbeq, i64_w, -List.getD_eq_getElem?_getD]) ?_
            refine rw_val (v := .pointer (some ⟨u, 6, none⟩)) (w' := w11) rfl rfl rfl rfl (by simp [go_sem, sEv, sLook, nbeq, i64_w, -List.getD_eq_getElem?_getD, Try.underlying51]) ?_
            have hb24 := hk13
            refine rw_store (g := u) (i := 6) (l := [.int .i64 (r.u - 1)]) (cs' := #[.string (strOfNums r.S), .string (strOfNums r.R), .int .i64 (r.st + 1), .bool r.a, .bool r.b, .int .i64 (r.l - 1), .int .i64 (r.u - 1), .bool r.d]) rfl rfl rfl hb24 rfl (by have e0_ := hb24.cellv (i := 6) (v := (.int .i64 r.u : Value)) rfl; have f0_ := hb24.frozen 6; simp [go_sem, sEv, sLook, nbeq, i64_w, -List.getD_eq_getElem?_getD, putCells, e0_, f0_]) ?_
            intro w21 hk22 hk23
            have hs_w21 := hk22.size
            refine rw_end ?_
            refine w_weaken (G' := [(2, .int .i64 0)]) ⟨rfl, trivial⟩ ?_
            refine w_seq ?_
            refine w_region ?_
            refine rw_val (v := .int .i64 0) (w' := w21) rfl rfl rfl rfl rfl ?_
            refine rw_end ?_
            refine w_ret (post_ret1 rfl rfl ?_)
            have e1_ : r.err = 0 := by unfold RS.err; simp [cD, cA, cL, cB, cU]
            rw [e1_]
            have e2_ : r.next = (⟨r.S, r.R, (r.st + 1), r.a, r.b, (r.l - 1), (r.u - 1), r.d⟩ : RS) := by have d1_ : duel r.a r.l = (r.l - 1) := (by unfold duel; simp [cA, cL]); have d2_ : duel r.b r.u = (r.u - 1) := (by unfold duel; simp [cB, cU]); rw [RS.next, if_neg (by simp [cD]), if_neg (by simp [cA, cL]), if_neg (by simp [cB, cU]), d1_, d2_]
            rw [e2_]
            exact ⟨rfl, (((Grow.ofK hk8).trans (Grow.ofK hk12)).trans (Grow.ofK hk22)), hk23⟩
        · refine w_skip ?_
          refine w_seq ?_
          refine w_region ?_
          refine rw_val (v := .int .i64 0) (w' := w11) rfl rfl rfl rfl rfl ?_
          refine rw_end ?_
          refine w_ret (post_ret1 rfl rfl ?_)
          have e1_ : r.err = 0 := by unfold RS.err; simp [cD, cA, cL, cB]
          rw [e1_]
          have e2_ : r.next = (⟨r.S, r.R, (r.st + 1), r.a, r.b, (r.l - 1), r.u, r.d⟩ : RS) := by have d1_ : duel r.a r.l = (r.l - 1) := (by unfold duel; simp [cA, cL]); have d2_ : duel r.b r.u = r.u := (by unfold duel; simp [cB]); rw [RS.next, if_neg (by simp [cD]), if_neg (by simp [cA, cL]), if_neg (by simp [cB]), d1_, d2_]
          rw [e2_]
          exact ⟨rfl, ((Grow.ofK hk8).trans (Grow.ofK hk12)), hk13⟩
    · refine w_skip ?_
      refine w_seq ?_
      refine w_region ?_
      refine rw_val (v := .pointer (some ⟨u, 0, none⟩)) (w' := w) rfl rfl rfl rfl rfl ?_
      refine rw_val (v := .pointer (some ⟨u, 0, none⟩)) (w' := w) rfl rfl rfl rfl rfl ?_
      refine rw_val (v := .pointer (some ⟨u, 0, none⟩)) (w' := w) rfl rfl rfl rfl (by simp [go_sem, sEv, sLook, nbeq, i64_w, -List.getD_eq_getElem?_getD]) ?_
      refine rw_val (v := .pointer (some ⟨u, 2, none⟩)) (w' := w) rfl rfl rfl rfl (by simp [go_sem, sEv, sLook, nbeq, i64_w, -List.getD_eq_getElem?_getD, Try.underlying51]) ?_
      refine rw_val (v := .int .i64 r.st) (w' := w) rfl rfl rfl rfl (by have eb_ := hb; have e0_ := eb_.cellv (i := 2) (v := (.int .i64 r.st : Value)) rfl; simp [go_sem, sEv, sLook, nbeq, i64_w, -List.getD_eq_getElem?_getD, e0_]) ?_
      refine rw_val (v := .int .i64 (r.st + 1)) (w' := w) rfl rfl rfl rfl (by simp [go_sem, sEv, sLook, nbeq, i64_w, -List.getD_eq_getElem?_getD]; exact wrap_id (by omega) (by omega)) ?_
      refine rw_val (v := .pointer (some ⟨u, 0, none⟩)) (w' := w) rfl rfl rfl rfl (by simp [go_sem, sEv, sLook, nbeq, i64_w, -List.getD_eq_getElem?_getD]) ?_
      refine rw_val (v := .pointer (some ⟨u, 2, none⟩)) (w' := w) rfl rfl rfl rfl (by simp [go_sem, sEv, sLook, nbeq, i64_w, -List.getD_eq_getElem?_getD, Try.underlying51]) ?_
      have hb28 := hb
      refine rw_store (g := u) (i := 2) (l := [.int .i64 (r.st + 1)]) (cs' := #[.string (strOfNums r.S), .string (strOfNums r.R), .int .i64 (r.st + 1), .bool r.a, .bool r.b, .int .i64 r.l, .int .i64 r.u, .bool r.d]) rfl rfl rfl hb28 rfl (by have e0_ := hb28.cellv (i := 2) (v := (.int .i64 r.st : Value)) rfl; have f0_ := hb28.frozen 2; simp [go_sem, sEv, sLook, nbeq, i64_w, -List.getD_eq_getElem?_getD, putCells, e0_, f0_]) ?_
      intro w25 hk26 hk27
      have hs_w25 := hk26.size
      refine rw_end ?_
      refine w_weaken (G' := [(0, .pointer (some ⟨u, 0, none⟩)), (2, .int .i64 0)]) ⟨rfl, rfl, trivial⟩ ?_
      refine w_seq ?_
      refine w_seq ?_
      refine w_region ?_
      refine rw_val (v := .pointer (some ⟨u, 0, none⟩)) (w' := w25) rfl rfl rfl rfl rfl ?_
      refine rw_val (v := .pointer (some ⟨u, 0, none⟩)) (w' := w25) rfl rfl rfl rfl (by simp [go_sem, sEv, sLook, nbeq, i64_w, -List.getD_eq_getElem?_getD]) ?_
      refine rw_val (v := .pointer (some ⟨u, 4, none⟩)) (w' := w25) rfl rfl rfl rfl (by simp [go_sem, sEv, sLook, nbeq, i64_w, -List.getD_eq_getElem?_getD, Try.underlying51]) ?_
      refine rw_val (v := .bool r.b) (w' := w25) rfl rfl rfl rfl (by have eb_ := hk27; have e0_ := eb_.cellv (i := 4) (v := (.bool r.b : Value)) rfl; simp [go_sem, sEv, sLook, nbeq, i64_w, -List.getD_eq_getElem?_getD, e0_]) ?_
      refine rw_end ?_
      refine w_weaken (G' := [(0, .pointer (some ⟨u, 0, none⟩)), (2, .int .i64 0), (38, .bool r.b)]) ⟨rfl, rfl, rfl, trivial⟩ ?_
      refine w_cond rfl rfl (fun cB => ?_) (fun cB => ?_)
      · refine w_seq ?_
        refine w_seq ?_
        refine w_region ?_
        refine rw_val (v := .pointer (some ⟨u, 0, none⟩)) (w' := w25) rfl rfl rfl rfl rfl ?_
        refine rw_val (v := .pointer (some ⟨u, 0, none⟩)) (w' := w25) rfl rfl rfl rfl (by simp [go_sem, sEv, sLook, nbeq, i64_w, -List.getD_eq_getElem?_getD]) ?_
        refine rw_val (v := .pointer (some ⟨u, 6, none⟩)) (w' := w25) rfl rfl rfl rfl (by simp [go_sem, sEv, sLook, nbeq, i64_w, -List.getD_eq_getElem?_getD, Try.underlying51]) ?_
        refine rw_val (v := .int .i64 r.u) (w' := w25) rfl rfl rfl rfl (by have eb_ := hk27; have e0_ := eb_.cellv (i := 6) (v := (.int .i64 r.u : Value)) rfl; simp [go_sem, sEv, sLook, nbeq, i64_w, -List.getD_eq_getElem?_getD, e0_]) ?_
        refine rw_val (v := .bool (r.u == 0)) (w' := w25) rfl rfl rfl rfl (by simp [go_sem, sEv, sLook, nbeq, i64_w, -List.getD_eq_getElem?_getD]) ?_
        refine rw_end ?_
        refine w_weaken (G' := [(0, .pointer (some ⟨u, 0, none⟩)), (2, .int .i64 0), (43, .bool (r.u == 0))]) ⟨rfl, rfl, rfl, trivial⟩ ?_
        refine w_cond rfl rfl (fun cU => ?_) (fun cU => ?_)
        · have l29 : r.u = 0 := by simpa using cU
          refine w_seq ?_
          refine w_region ?_
          refine rw_val (v := .pointer (some ⟨u, 0, none⟩)) (w' := w25) rfl rfl rfl rfl rfl ?_
          refine rw_val (v := .pointer (some ⟨u, 0, none⟩)) (w' := w25) rfl rfl rfl rfl (by simp [go_sem, sEv, sLook, nbeq, i64_w, -List.getD_eq_getElem?_getD]) ?_
          refine rw_val (v := .pointer (some ⟨u, 4, none⟩)) (w' := w25) rfl rfl rfl rfl (by simp [go_sem, sEv, sLook, nbeq, i64_w, -List.getD_eq_getElem?_getD, Try.underlying51]) ?_
          have hb33 := hk27
          refine rw_store (g := u) (i := 4) (l := [.bool false]) (cs' := #[.string (strOfNums r.S), .string (strOfNums r.R), .int .i64 (r.st + 1), .bool r.a, .bool false, .int .i64 r.l, .int .i64 r.u, .bool r.d]) rfl rfl rfl hb33 rfl (by have e0_ := hb33.cellv (i := 4) (v := (.bool r.b : Value)) rfl; have f0_ := hb33.frozen 4; simp [go_sem, sEv, sLook, nbeq, i64_w, -List.getD_eq_getElem?_getD, putCells, e0_, f0_]) ?_
          intro w30 hk31 hk32
          have hs_w30 := hk31.size
          refine rw_end ?_
          refine w_weaken (G' := [(0, .pointer (some ⟨u, 0, none⟩)), (2, .int .i64 0)]) ⟨rfl, rfl, trivial⟩ ?_
          refine w_seq ?_
          refine w_region ?_
          refine rw_val (v := .int .i64 6) (w' := w30) rfl rfl rfl rfl rfl ?_
          refine rw_end ?_
          refine w_ret (post_ret1 rfl rfl ?_)
          have e1_ : r.err = 6 := by unfold RS.err; simp [cD, cA, cB, cU]
          rw [e1_]
          have e2_ : r.next = (⟨r.S, r.R, (r.st + 1), r.a, false, r.l, r.u, r.d⟩ : RS) := by have d1_ : duel r.a r.l = r.l := (by unfold duel; simp [cA]); rw [RS.next, if_neg (by simp [cD]), if_neg (by simp [cA]), if_pos (by simp [cB, cU]), d1_]
          rw [e2_]
          exact ⟨rfl, ((Grow.ofK hk26).trans (Grow.ofK hk31)), hk32⟩
        · have l34 : ¬ r.u = 0 := by simpa using cU
          refine w_skip ?_
          refine w_region ?_
          refine rw_val (v := .pointer (some ⟨u, 0, none⟩)) (w' := w25) rfl rfl rfl rfl rfl ?_
          refine rw_val (v := .pointer (some ⟨u, 0, none⟩)) (w' := w25) rfl rfl rfl rfl rfl ?_
          refine rw_val (v := .pointer (some ⟨u, 0, none⟩)) (w' := w25) rfl rfl rfl rfl (by simp [go_sem, sEv, sLook, nbeq, i64_w, -List.getD_eq_getElem?_getD]) ?_
          refine rw_val (v := .pointer (some ⟨u, 6, none⟩)) (w' := w25) rfl rfl rfl rfl (by simp [go_sem, sEv, sLook, nbeq, i64_w, -List.getD_eq_getElem?_getD, Try.underlying51]) ?_
          refine rw_val (v := .int .i64 r.u) (w' := w25) rfl rfl rfl rfl (by have eb_ := hk27; have e0_ := eb_.cellv (i := 6) (v := (.int .i64 r.u : Value)) rfl; simp [go_sem, sEv, sLook, nbeq, i64_w, -List.getD_eq_getElem?_getD, e0_]) ?_
          refine rw_val (v := .int .i64 (r.u - 1)) (w' := w25) rfl rfl rfl rfl (by simp [go_sem, sEv, sLook, nbeq, i64_w, -List.getD_eq_getElem?_getD]; exact wrap_id (by omega) (by omega)) ?_
          refine rw_val (v := .pointer (some ⟨u, 0, none⟩)) (w' := w25) rfl rfl rfl rfl (by simp [go_sem, sEv, sLook, nbeq, i64_w, -List.getD_eq_getElem?_getD]) ?_
          refine rw_val (v := .pointer (some ⟨u, 6, none⟩)) (w' := w25) rfl rfl rfl rfl (by simp [go_sem, sEv, sLook, nbeq, i64_w, -List.getD_eq_getElem?_getD, Try.underlying51]) ?_
          have hb38 := hk27
          refine rw_store (g := u) (i := 6) (l := [.int .i64 (r.u - 1)]) (cs' := #[.string (strOfNums r.S), .string (strOfNums r.R), .int .i64 (r.st + 1), .bool r.a, .bool r.b, .int .i64 r.l, .int .i64 (r.u - 1), .bool r.d]) rfl rfl rfl hb38 rfl (by have e0_ := hb38.cellv (i := 6) (v := (.int .i64 r.u : Value)) rfl; have f0_ := hb38.frozen 6; simp [go_sem, sEv, sLook, nbeq, i64_w, -List.getD_eq_getElem?_getD, putCells, e0_, f0_]) ?_
          intro w35 hk36 hk37
          have hs_w35 := hk36.size
          refine rw_end ?_
          refine w_weaken (G' := [(2, .int .i64 0)]) ⟨rfl, trivial⟩ ?_
          refine w_seq ?_
          refine w_region ?_
          refine rw_val (v := .int .i64 0) (w' := w35) rfl rfl rfl rfl rfl ?_
          refine rw_end ?_
          refine w_ret (post_ret1 rfl rfl ?_)
          have e1_ : r.err = 0 := by unfold RS.err; simp [cD, cA, cB, cU]
          rw [e1_]
          have e2_ : r.next = (⟨r.S, r.R, (r.st + 1), r.a, r.b, r.l, (r.u - 1), r.d⟩ : RS) := by have d1_ : duel r.a r.l = r.l := (by unfold duel; simp [cA]); have d2_ : duel r.b r.u = (r.u - 1) := (by unfold duel; simp [cB, cU]); rw [RS.next, if_neg (by simp [cD]), if_neg (by simp [cA]), if_neg (by simp [cB, cU]), d1_, d2_]
          rw [e2_]
          exact ⟨rfl, ((Grow.ofK hk26).trans (Grow.ofK hk36)), hk37⟩
      · refine w_skip ?_
        refine w_seq ?_
        refine w_region ?_
        refine rw_val (v := .int .i64 0) (w' := w25) rfl rfl rfl rfl rfl ?_
        refine rw_end ?_
        refine w_ret (post_ret1 rfl rfl ?_)
        have e1_ : r.err = 0 := by unfold RS.err; simp [cD, cA, cB]
        rw [e1_]
        have e2_ : r.next = (⟨r.S, r.R, (r.st + 1), r.a, r.b, r.l, r.u, r.d⟩ : RS) := by have d1_ : duel r.a r.l = r.l := (by unfold duel; simp [cA]); have d2_ : duel r.b r.u = r.u := (by unfold duel; simp [cB]); rw [RS.next, if_neg (by simp [cD]), if_neg (by simp [cA]), if_neg (by simp [cB]), d1_, d2_]
        rw [e2_]
        exact ⟨rfl, (Grow.ofK hk26), hk27⟩
set_option maxHeartbeats 4000000 in
theorem rappend (w : World) (u : Nat) (r : RS) (hst : 0 ≤ r.st ∧ r.st ≤ 999999999) (hl : 0 ≤ r.l ∧ r.l ≤ 9223372036854775807) (hu_ : 0 ≤ r.u ∧ r.u ≤ 9223372036854775807) (hn : r.S.length + r.R.length ≤ 1048576) (ys : List Int) (hy : ys.length ≤ 140737488355328) (hb : Blk w u 51 (rcells r)) :
    Calls Try.prog 32 #[.pointer (some ⟨u, 0, none⟩), .string (strOfNums ys)] w fun e w' => e = .returned (.int .i64 (r.appE ys)) ∧ Grow u w w' ∧ Blk w' u 51 (rcells (r.app ys)) := by
  refine calls_flow Try.func32 rfl 35 rfl (Nat.le_of_ble_eq_true rfl) [(0, .pointer (some ⟨u, 0, none⟩)), (1, .string (strOfNums ys))] ?_ ?_
  · intro t v h; exact args_look rfl t v h
  refine w_seq ?_
  refine w_region ?_
  refine rw_val (v := .int .i64 0) (w' := w) rfl rfl rfl rfl rfl ?_
  refine rw_end ?_
  refine w_seq ?_
  refine w_seq ?_
  refine w_drawk (M := [0, 1, 3, 7, 15, 0, 32, 96, 224, 480, 1023, 0, 2048, 8191, 16383]) (ss := [Is (.pointer (some ⟨u, 0, none⟩)), Is (.pointer (some ⟨u, 0, none⟩)), Is (.pointer (some ⟨u, 0, none⟩)), Is (.string (strOfNums r.S)), Is (.int .i64 ((r.S.length : Nat) : Int)), Is (.pointer (some ⟨u, 0, none⟩)), Is (.pointer (some ⟨u, 0, none⟩)), Is (.pointer (some ⟨u, 1, none⟩)), Is (.string (strOfNums r.R)), Is (.int .i64 ((r.R.length : Nat) : Int)), Is (.int .i64 ((r.S.length + r.R.length : Nat) : Int)), Is (.string (strOfNums ys)), Is (.int .i64 ((ys.length : Nat) : Int))]) 13 rfl (by decide +kernel) ?_
  refine t_is (.pointer (some ⟨u, 0, none⟩)) rfl rfl rfl rfl (fun W_ hW_ F_ => rfl) ?_
  refine t_is (.pointer (some ⟨u, 0, none⟩)) rfl rfl rfl rfl (fun W_ hW_ F_ => by simp [go_sem, sEv, sLook, nbeq, i64_w, -List.getD_eq_getElem?_getD]) ?_
  refine t_is (.pointer (some ⟨u, 0, none⟩)) rfl rfl rfl rfl (fun W_ hW_ F_ => by simp [go_sem, sEv, sLook, nbeq, i64_w, -List.getD_eq_getElem?_getD, Try.underlying51]) ?_
  refine t_is (.string (strOfNums r.S)) rfl rfl rfl rfl (fun W_ hW_ F_ => by have eb_ := (hb.on (below_of_drew hW_)); have e0_ := eb_.cellv (i := 0) (v := (.string (strOfNums r.S) : Value)) rfl; simp [go_sem, sEv, sLook, nbeq, i64_w, -List.getD_eq_getElem?_getD, e0_]) ?_
  refine t_is (.int .i64 ((r.S.length : Nat) : Int)) rfl rfl rfl rfl (fun W_ hW_ F_ => (by simp [go_sem, sEv, sLook, nbeq, i64_w, -List.getD_eq_getElem?_getD, strOfNums_size])) ?_
  refine t_is (.pointer (some ⟨u, 0, none⟩)) rfl rfl rfl rfl (fun W_ hW_ F_ => rfl) ?_
  refine t_is (.pointer (some ⟨u, 0, none⟩)) rfl rfl rfl rfl (fun W_ hW_ F_ => by simp [go_sem, sEv, sLook, nbeq, i64_w, -List.getD_eq_getElem?_getD]) ?_
  refine t_is (.pointer (some ⟨u, 1, none⟩)) rfl rfl rfl rfl (fun W_ hW_ F_ => by simp [go_sem, sEv, sLook, nbeq, i64_w, -List.getD_eq_getElem?_getD, Try.underlying51]) ?_
  refine t_is (.string (strOfNums r.R)) rfl rfl rfl rfl (fun W_ hW_ F_ => by have eb_ := (hb.on (below_of_drew hW_)); have e0_ := eb_.cellv (i := 1) (v := (.string (strOfNums r.R) : Value)) rfl; simp [go_sem, sEv, sLook, nbeq, i64_w, -List.getD_eq_getElem?_getD, e0_]) ?_
  refine t_is (.int .i64 ((r.R.length : Nat) : Int)) rfl rfl rfl rfl (fun W_ hW_ F_ => (by simp [go_sem, sEv, sLook, nbeq, i64_w, -List.getD_eq_getElem?_getD, strOfNums_size])) ?_
  refine t_is (.int .i64 ((r.S.length + r.R.length : Nat) : Int)) rfl rfl rfl rfl (fun W_ hW_ F_ => by simp [go_sem, sEv, sLook, nbeq, i64_w, -List.getD_eq_getElem?_getD]; exact wrap_id (by omega) (by omega)) ?_
  refine t_is (.string (strOfNums ys)) rfl rfl rfl rfl (fun W_ hW_ F_ => rfl) ?_
  refine t_is (.int .i64 ((ys.length : Nat) : Int)) rfl rfl rfl rfl (fun W_ hW_ F_ => (by simp [go_sem, sEv, sLook, nbeq, i64_w, -List.getD_eq_getElem?_getD, strOfNums_size])) ?_
  refine t_tail ?_
  intro w1 hb2_ F3
  have hb2 := below_of_drew hb2_
  have hs_w1 := hb2.size
  refine rw_val (v := .int .i64 ((r.S.length + r.R.length + ys.length : Nat) : Int)) (w' := w1) rfl rfl rfl rfl (by simp [go_sem, sEv, sLook, nbeq, i64_w, -List.getD_eq_getElem?_getD]; exact wrap_id (by omega) (by omega)) ?_
  refine rw_val (v := .bool (decide (1048576 < ((r.S.length + r.R.length + ys.length : Nat) : Int)))) (w' := w1) rfl rfl rfl rfl (by simp [go_sem, sEv, sLook, nbeq, i64_w, -List.getD_eq_getElem?_getD]) ?_
  refine rw_end ?_
  refine w_weaken (G' := [(0, .pointer (some ⟨u, 0, none⟩)), (1, .string (strOfNums ys)), (4, .int .i64 0), (20, .bool (decide (1048576 < ((r.S.length + r.R.length + ys.length : Nat) : Int))))]) ⟨rfl, rfl, rfl, rfl, trivial⟩ ?_
  refine w_cond rfl rfl (fun c4 => ?_) (fun c4 => ?_)
  · have l5 : (1048576 < ((r.S.length + r.R.length + ys.length : Nat) : Int)) := of_decide_eq_true c4
    refine w_seq ?_
    refine w_region ?_
    refine rw_val (v := .int .i64 7) (w' := w1) rfl rfl rfl rfl rfl ?_
    refine rw_end ?_
    refine w_ret (post_ret1 rfl rfl ?_)
    have e1_ : r.appE ys = 7 := by unfold RS.appE; rw [if_pos (by have := of_decide_eq_true c4; omega)]
    rw [e1_]
    have e2_ : r.app ys = (⟨r.S, r.R, r.st, r.a, r.b, r.l, r.u, r.d⟩ : RS) := by unfold RS.app; rw [if_pos (by have := of_decide_eq_true c4; omega)]
    rw [e2_]
    exact ⟨rfl, (Grow.ofB hb2), (hb.on hb2)⟩
  · have l6 : ¬ (1048576 < ((r.S.length + r.R.length + ys.length : Nat) : Int)) := of_decide_eq_false c4
    refine w_skip ?_
    refine w_seq ?_
    refine w_region ?_
    refine rw_val (v := .pointer (some ⟨u, 0, none⟩)) (w' := w1) rfl rfl rfl rfl rfl ?_
    refine rw_call rfl rfl rfl rfl (f := 39) (args := #[.pointer (some ⟨u, 0, none⟩)]) (by simp [go_sem, sEv, sLook, nbeq, i64_w, -List.getD_eq_getElem?_getD]) (rstep w1 u r hst hl hu_ hn (hb.on hb2)) ?_
    rintro e_ w7 ⟨rfl, hG8, hb9⟩
    refine ⟨_, rfl, ?_⟩
    have hs_w7 := hG8.size
    refine rw_val (v := .int .i64 r.err) (w' := w7) rfl rfl rfl rfl rfl ?_
    refine rw_end ?_
    refine w_seq ?_
    refine w_seq ?_
    refine w_region ?_
    refine rw_val (v := .int .i64 r.err) (w' := w7) rfl rfl rfl rfl rfl ?_
    refine rw_val (v := .bool (r.err == 0)) (w' := w7) rfl rfl rfl rfl (by simp [go_sem, sEv, sLook, nbeq, i64_w, -List.getD_eq_getElem?_getD]) ?_
    refine rw_end ?_
    refine w_cond rfl rfl (fun cE => ?_) (fun cE => ?_)
    · have l10 : r.err = 0 := by simpa using cE
      refine w_region ?_
      refine rw_val (v := .pointer (some ⟨u, 0, none⟩)) (w' := w7) rfl rfl rfl rfl rfl ?_
      refine rw_val (v := .pointer (some ⟨u, 0, none⟩)) (w' := w7) rfl rfl rfl rfl rfl ?_
      refine rw_val (v := .pointer (some ⟨u, 0, none⟩)) (w' := w7) rfl rfl rfl rfl (by simp [go_sem, sEv, sLook, nbeq, i64_w, -List.getD_eq_getElem?_getD]) ?_
      refine rw_val (v := .pointer (some ⟨u, 1, none⟩)) (w' := w7) rfl rfl rfl rfl (by simp [go_sem, sEv, sLook, nbeq, i64_w, -List.getD_eq_getElem?_getD, Try.underlying51]) ?_
      refine rw_val (v := .string (strOfNums r.next.R)) (w' := w7) rfl rfl rfl rfl (by have eb_ := hb9; have e0_ := eb_.cellv (i := 1) (v := (.string (strOfNums r.next.R) : Value)) rfl; simp [go_sem, sEv, sLook, nbeq, i64_w, -List.getD_eq_getElem?_getD, e0_]) ?_
      refine rw_val (v := .string (strOfNums ys)) (w' := w7) rfl rfl rfl rfl rfl ?_
      refine rw_val (v := .string (strOfNums (r.next.R ++ ys))) (w' := w7) rfl rfl rfl rfl (run_as (run_str_add (t := 9) r.next.R ys (by have h_ := r.next_SR; (try simp only [h_.1, h_.2, List.length_take]); omega) _)) ?_
      refine rw_val (v := .pointer (some ⟨u, 0, none⟩)) (w' := w7) rfl rfl rfl rfl (by simp [go_sem, sEv, sLook, nbeq, i64_w, -List.getD_eq_getElem?_getD]) ?_
      refine rw_val (v := .pointer (some ⟨u, 1, none⟩)) (w' := w7) rfl rfl rfl rfl (by simp [go_sem, sEv, sLook, nbeq, i64_w, -List.getD_eq_getElem?_getD, Try.underlying51]) ?_
      have hb14 := hb9
      refine rw_store (g := u) (i := 1) (l := [.string (strOfNums (r.next.R ++ ys))]) (cs' := #[.string (strOfNums r.next.S), .string (strOfNums (r.next.R ++ ys)), .int .i64 r.next.st, .bool r.next.a, .bool r.next.b, .int .i64 r.next.l, .int .i64 r.next.u, .bool r.next.d]) rfl rfl rfl hb14 rfl (by have e0_ := hb14.cellv (i := 1) (v := (.string (strOfNums r.next.R) : Value)) rfl; have f0_ := hb14.frozen 1; simp [go_sem, sEv, sLook, nbeq, i64_w, -List.getD_eq_getElem?_getD, putCells, e0_, f0_]) ?_
      intro w11 hk12 hk13
      have hs_w11 := hk12.size
      refine rw_end ?_
      refine w_weaken (G' := [(4, .int .i64 0), (5, .int .i64 r.err)]) ⟨rfl, rfl, trivial⟩ ?_
      refine w_seq ?_
      refine w_region ?_
      refine rw_val (v := .int .i64 r.err) (w' := w11) rfl rfl rfl rfl rfl ?_
      refine rw_val (v := .int .i64 r.err) (w' := w11) rfl rfl rfl rfl rfl ?_
      refine rw_end ?_
      refine w_ret (post_ret1 rfl rfl ?_)
      have e1_ : r.appE ys = r.err := by unfold RS.appE; rw [if_neg (by have := of_decide_eq_false c4; omega)]
      rw [e1_]
      have e2_ : r.app ys = (⟨r.next.S, (r.next.R ++ ys), r.next.st, r.next.a, r.next.b, r.next.l, r.next.u, r.next.d⟩ : RS) := by unfold RS.app; rw [if_neg (by have := of_decide_eq_false c4; omega)]; rw [if_pos cE]
      rw [e2_]
      exact ⟨rfl, (((Grow.ofB hb2).trans hG8).trans (Grow.ofK hk12)), hk13⟩
    · have l15 : ¬ r.err = 0 := by simpa using cE
      refine w_skip ?_
      refine w_seq ?_
      refine w_region ?_
      refine rw_val (v := .int .i64 r.err) (w' := w7) rfl rfl rfl rfl rfl ?_
      refine rw_val (v := .int .i64 r.err) (w' := w7) rfl rfl rfl rfl rfl ?_
      refine rw_end ?_
      refine w_ret (post_ret1 rfl rfl ?_)
      have e1_ : r.appE ys = r.err := by unfold RS.appE; rw [if_neg (by have := of_decide_eq_false c4; omega)]
      rw [e1_]
      have e2_ : r.app ys = (⟨r.next.S, r.next.R, r.next.st, r.next.a, r.next.b, r.next.l, r.next.u, r.next.d⟩ : RS) := by unfold RS.app; rw [if_neg (by have := of_decide_eq_false c4; omega)]; rw [if_neg (by simp [cE])]
      rw [e2_]
      exact ⟨rfl, ((Grow.ofB hb2).trans hG8), hb9⟩
set_option maxHeartbeats 4000000 in
theorem rsync (w : World) (u : Nat) (r : RS) (hst : 0 ≤ r.st ∧ r.st ≤ 999999999) (hl : 0 ≤ r.l ∧ r.l ≤ 9223372036854775807) (hu_ : 0 ≤ r.u ∧ r.u ≤ 9223372036854775807) (hn : r.S.length + r.R.length ≤ 1048576) (hb : Blk w u 51 (rcells r)) :
    Calls Try.prog 33 #[.pointer (some ⟨u, 0, none⟩)] w fun e w' => e = .returned (.int .i64 r.err) ∧ Grow u w w' ∧ Blk w' u 51 (rcells r.sync) := by
  refine calls_flow Try.func33 rfl 24 rfl (Nat.le_of_ble_eq_true rfl) [(0, .pointer (some ⟨u, 0, none⟩))] ?_ ?_
  · intro t v h; exact args_look rfl t v h
  refine w_seq ?_
  refine w_region ?_
  refine rw_val (v := .int .i64 0) (w' := w) rfl rfl rfl rfl rfl ?_
  refine rw_end ?_
  refine w_seq ?_
  refine w_region ?_
  refine rw_val (v := .pointer (some ⟨u, 0, none⟩)) (w' := w) rfl rfl rfl rfl rfl ?_
  refine rw_call rfl rfl rfl rfl (f := 39) (args := #[.pointer (some ⟨u, 0, none⟩)]) (by simp [go_sem, sEv, sLook, nbeq, i64_w, -List.getD_eq_getElem?_getD]) (rstep w u r hst hl hu_ hn hb) ?_
  rintro e_ w1 ⟨rfl, hG2, hb3⟩
  refine ⟨_, rfl, ?_⟩
  have hs_w1 := hG2.size
  refine rw_val (v := .int .i64 r.err) (w' := w1) rfl rfl rfl rfl rfl ?_
  refine rw_end ?_
  refine w_seq ?_
  refine w_seq ?_
  refine w_region ?_
  refine rw_val (v := .int .i64 r.err) (w' := w1) rfl rfl rfl rfl rfl ?_
  refine rw_val (v := .bool (r.err == 0)) (w' := w1) rfl rfl rfl rfl (by simp [go_sem, sEv, sLook, nbeq, i64_w, -List.getD_eq_getElem?_getD]) ?_
  refine rw_end ?_
  refine w_cond rfl rfl (fun cE => ?_) (fun cE => ?_)
  · have l4 : r.err = 0 := by simpa using cE
    refine w_seq ?_
    refine w_drawk (M := [0, 0, 2, 6, 14, 0, 32, 96, 224, 510, 1023, 2047, 4095]) (ss := [Is (.pointer (some ⟨u, 0, none⟩)), Is (.pointer (some ⟨u, 0, none⟩)), Is (.pointer (some ⟨u, 0, none⟩)), Is (.pointer (some ⟨u, 0, none⟩)), Is (.string (strOfNums r.next.S)), Is (.pointer (some ⟨u, 0, none⟩)), Is (.pointer (some ⟨u, 0, none⟩)), Is (.pointer (some ⟨u, 1, none⟩)), Is (.string (strOfNums r.next.R)), Is (.string (strOfNums (r.next.S ++ r.next.R)))]) 10 rfl (by decide +kernel) ?_
    refine t_is (.pointer (some ⟨u, 0, none⟩)) rfl rfl rfl rfl (fun W_ hW_ F_ => rfl) ?_
    refine t_is (.pointer (some ⟨u, 0, none⟩)) rfl rfl rfl rfl (fun W_ hW_ F_ => rfl) ?_
    refine t_is (.pointer (some ⟨u, 0, none⟩)) rfl rfl rfl rfl (fun W_ hW_ F_ => by simp [go_sem, sEv, sLook, nbeq, i64_w, -List.getD_eq_getElem?_getD]) ?_
    refine t_is (.pointer (some ⟨u, 0, none⟩)) rfl rfl rfl rfl (fun W_ hW_ F_ => by simp [go_sem, sEv, sLook, nbeq, i64_w, -List.getD_eq_getElem?_getD, Try.underlying51]) ?_
    refine t_is (.string (strOfNums r.next.S)) rfl rfl rfl rfl (fun W_ hW_ F_ => by have eb_ := (hb3.on (below_of_drew hW_)); have e0_ := eb_.cellv (i := 0) (v := (.string (strOfNums r.next.S) : Value)) rfl; simp [go_sem, sEv, sLook, nbeq, i64_w, -List.getD_eq_getElem?_getD, e0_]) ?_
    refine t_is (.pointer (some ⟨u, 0, none⟩)) rfl rfl rfl rfl (fun W_ hW_ F_ => rfl) ?_
    refine t_is (.pointer (some ⟨u, 0, none⟩)) rfl rfl rfl rfl (fun W_ hW_ F_ => by simp [go_sem, sEv, sLook, nbeq, i64_w, -List.getD_eq_getElem?_getD]) ?_
    refine t_is (.pointer (some ⟨u, 1, none⟩)) rfl rfl rfl rfl (fun W_ hW_ F_ => by simp [go_sem, sEv, sLook, nbeq, i64_w, -List.getD_eq_getElem?_getD, Try.underlying51]) ?_
    refine t_is (.string (strOfNums r.next.R)) rfl rfl rfl rfl (fun W_ hW_ F_ => by have eb_ := (hb3.on (below_of_drew hW_)); have e0_ := eb_.cellv (i := 1) (v := (.string (strOfNums r.next.R) : Value)) rfl; simp [go_sem, sEv, sLook, nbeq, i64_w, -List.getD_eq_getElem?_getD, e0_]) ?_
    refine t_is (.string (strOfNums (r.next.S ++ r.next.R))) rfl rfl rfl rfl (fun W_ hW_ F_ => (run_as (run_str_add (t := 9) r.next.S r.next.R (by have h_ := r.next_SR; (try simp only [h_.1, h_.2, List.length_take]); omega) _))) ?_
    refine t_tail ?_
    intro w5 hb6_ F7
    have hb6 := below_of_drew hb6_
    have hs_w5 := hb6.size
    refine rw_val (v := .pointer (some ⟨u, 0, none⟩)) (w' := w5) rfl rfl rfl rfl (by simp [go_sem, sEv, sLook, nbeq, i64_w, -List.getD_eq_getElem?_getD]) ?_
    refine rw_val (v := .pointer (some ⟨u, 0, none⟩)) (w' := w5) rfl rfl rfl rfl (by simp [go_sem, sEv, sLook, nbeq, i64_w, -List.getD_eq_getElem?_getD, Try.underlying51]) ?_
    have hb11 := (hb3.on hb6)
    refine rw_store (g := u) (i := 0) (l := [.string (strOfNums (r.next.S ++ r.next.R))]) (cs' := #[.string (strOfNums (r.next.S ++ r.next.R)), .string (strOfNums r.next.R), .int .i64 r.next.st, .bool r.next.a, .bool r.next.b, .int .i64 r.next.l, .int .i64 r.next.u, .bool r.next.d]) rfl rfl rfl hb11 rfl (by have e0_ := hb11.cellv (i := 0) (v := (.string (strOfNums r.next.S) : Value)) rfl; have f0_ := hb11.frozen 0; simp [go_sem, sEv, sLook, nbeq, i64_w, -List.getD_eq_getElem?_getD, putCells, e0_, f0_]) ?_
    intro w8 hk9 hk10
    have hs_w8 := hk9.size
    refine rw_end ?_
    refine w_weaken (G' := [(0, .pointer (some ⟨u, 0, none⟩)), (2, .int .i64 0), (3, .int .i64 r.err)]) ⟨rfl, rfl, rfl, trivial⟩ ?_
    refine w_region ?_
    refine rw_val (v := .pointer (some ⟨u, 0, none⟩)) (w' := w8) rfl rfl rfl rfl rfl ?_
    refine rw_val (v := .pointer (some ⟨u, 0, none⟩)) (w' := w8) rfl rfl rfl rfl (by simp [go_sem, sEv, sLook, nbeq, i64_w, -List.getD_eq_getElem?_getD]) ?_
    refine rw_val (v := .pointer (some ⟨u, 1, none⟩)) (w' := w8) rfl rfl rfl rfl (by simp [go_sem, sEv, sLook, nbeq, i64_w, -List.getD_eq_getElem?_getD, Try.underlying51]) ?_
    have hb15 := hk10
    refine rw_store (g := u) (i := 1) (l := [.string (⟨#[]⟩ : ByteArray)]) (cs' := #[.string (strOfNums (r.next.S ++ r.next.R)), .string (⟨#[]⟩ : ByteArray), .int .i64 r.next.st, .bool r.next.a, .bool r.next.b, .int .i64 r.next.l, .int .i64 r.next.u, .bool r.next.d]) rfl rfl rfl hb15 rfl (by have e0_ := hb15.cellv (i := 1) (v := (.string (strOfNums r.next.R) : Value)) rfl; have f0_ := hb15.frozen 1; simp [go_sem, sEv, sLook, nbeq, i64_w, -List.getD_eq_getElem?_getD, putCells, e0_, f0_]) ?_
    intro w12 hk13 hk14
    have hs_w12 := hk13.size
    refine rw_end ?_
    refine w_weaken (G' := [(2, .int .i64 0), (3, .int .i64 r.err)]) ⟨rfl, rfl, trivial⟩ ?_
    refine w_seq ?_
    refine w_region ?_
    refine rw_val (v := .int .i64 r.err) (w' := w12) rfl rfl rfl rfl rfl ?_
    refine rw_val (v := .int .i64 r.err) (w' := w12) rfl rfl rfl rfl rfl ?_
    refine rw_end ?_
    refine w_ret (post_ret1 rfl rfl ?_)
    have e1_ : r.err = r.err := rfl
    rw [e1_]
    have e2_ : r.sync = (⟨(r.next.S ++ r.next.R), [], r.next.st, r.next.a, r.next.b, r.next.l, r.next.u, r.next.d⟩ : RS) := by unfold RS.sync; rw [if_pos cE]
    rw [e2_]
    exact ⟨rfl, (((hG2.trans (Grow.ofB hb6)).trans (Grow.ofK hk9)).trans (Grow.ofK hk13)), hk14⟩
  · have l16 : ¬ r.err = 0 := by simpa using cE
    refine w_skip ?_
    refine w_seq ?_
    refine w_region ?_
    refine rw_val (v := .int .i64 r.err) (w' := w1) rfl rfl rfl rfl rfl ?_
    refine rw_val (v := .int .i64 r.err) (w' := w1) rfl rfl rfl rfl rfl ?_
    refine rw_end ?_
    refine w_ret (post_ret1 rfl rfl ?_)
    have e1_ : r.err = r.err := rfl
    rw [e1_]
    have e2_ : r.sync = (⟨r.next.S, r.next.R, r.next.st, r.next.a, r.next.b, r.next.l, r.next.u, r.next.d⟩ : RS) := by unfold RS.sync; rw [if_neg (by simp [cE])]
    rw [e2_]
    exact ⟨rfl, hG2, hb3⟩
set_option maxHeartbeats 4000000 in
theorem rreplace (w : World) (u : Nat) (r : RS) (hst : 0 ≤ r.st ∧ r.st ≤ 999999999) (hl : 0 ≤ r.l ∧ r.l ≤ 9223372036854775807) (hu_ : 0 ≤ r.u ∧ r.u ≤ 9223372036854775807) (hn : r.S.length + r.R.length ≤ 1048576) (ys : List Int) (hy : ys.length ≤ 140737488355328) (hb : Blk w u 51 (rcells r)) :
    Calls Try.prog 34 #[.pointer (some ⟨u, 0, none⟩), .string (strOfNums ys)] w fun e w' => e = .returned (.int .i64 (r.repE ys)) ∧ Grow u w w' ∧ Blk w' u 51 (rcells (r.rep ys)) := by
  refine calls_flow Try.func34 rfl 21 rfl (Nat.le_of_ble_eq_true rfl) [(0, .pointer (some ⟨u, 0, none⟩)), (1, .string (strOfNums ys))] ?_ ?_
  · intro t v h; exact args_look rfl t v h
  refine w_seq ?_
  refine w_region ?_
  refine rw_val (v := .int .i64 0) (w' := w) rfl rfl rfl rfl rfl ?_
  refine rw_end ?_
  refine w_seq ?_
  refine w_seq ?_
  refine w_region ?_
  refine rw_val (v := .string (strOfNums ys)) (w' := w) rfl rfl rfl rfl rfl ?_
  refine rw_val (v := .int .i64 ((ys.length : Nat) : Int)) (w' := w) rfl rfl rfl rfl (by simp [go_sem, sEv, sLook, nbeq, i64_w, -List.getD_eq_getElem?_getD, strOfNums_size]) ?_
  refine rw_val (v := .bool (decide (1048576 < ((ys.length : Nat) : Int)))) (w' := w) rfl rfl rfl rfl (by simp [go_sem, sEv, sLook, nbeq, i64_w, -List.getD_eq_getElem?_getD]) ?_
  refine rw_end ?_
  refine w_cond rfl rfl (fun c1 => ?_) (fun c1 => ?_)
  · have l2 : (1048576 < ((ys.length : Nat) : Int)) := of_decide_eq_true c1
    refine w_seq ?_
    refine w_region ?_
    refine rw_val (v := .int .i64 7) (w' := w) rfl rfl rfl rfl rfl ?_
    refine rw_end ?_
    refine w_ret (post_ret1 rfl rfl ?_)
    have e1_ : r.repE ys = 7 := by unfold RS.repE; rw [if_pos (by have := of_decide_eq_true c1; omega)]
    rw [e1_]
    have e2_ : r.rep ys = (⟨r.S, r.R, r.st, r.a, r.b, r.l, r.u, r.d⟩ : RS) := by unfold RS.rep; rw [if_pos (by have := of_decide_eq_true c1; omega)]
    rw [e2_]
    exact ⟨rfl, (Grow.refl _ _), hb⟩
  · have l3 : ¬ (1048576 < ((ys.length : Nat) : Int)) := of_decide_eq_false c1
    refine w_skip ?_
    refine w_seq ?_
    refine w_region ?_
    refine rw_val (v := .pointer (some ⟨u, 0, none⟩)) (w' := w) rfl rfl rfl rfl rfl ?_
    refine rw_call rfl rfl rfl rfl (f := 39) (args := #[.pointer (some ⟨u, 0, none⟩)]) (by simp [go_sem, sEv, sLook, nbeq, i64_w, -List.getD_eq_getElem?_getD]) (rstep w u r hst hl hu_ hn hb) ?_
    rintro e_ w4 ⟨rfl, hG5, hb6⟩
    refine ⟨_, rfl, ?_⟩
    have hs_w4 := hG5.size
    refine rw_val (v := .int .i64 r.err) (w' := w4) rfl rfl rfl rfl rfl ?_
    refine rw_end ?_
    refine w_seq ?_
    refine w_seq ?_
    refine w_region ?_
    refine rw_val (v := .int .i64 r.err) (w' := w4) rfl rfl rfl rfl rfl ?_
    refine rw_val (v := .bool (r.err == 0)) (w' := w4) rfl rfl rfl rfl (by simp [go_sem, sEv, sLook, nbeq, i64_w, -List.getD_eq_getElem?_getD]) ?_
    refine rw_end ?_
    refine w_cond rfl rfl (fun cE => ?_) (fun cE => ?_)
    · have l7 : r.err = 0 := by simpa using cE
      refine w_seq ?_
      refine w_region ?_
      refine rw_val (v := .pointer (some ⟨u, 0, none⟩)) (w' := w4) rfl rfl rfl rfl rfl ?_
      refine rw_val (v := .string (strOfNums ys)) (w' := w4) rfl rfl rfl rfl rfl ?_
      refine rw_val (v := .pointer (some ⟨u, 0, none⟩)) (w' := w4) rfl rfl rfl rfl (by simp [go_sem, sEv, sLook, nbeq, i64_w, -List.getD_eq_getElem?_getD]) ?_
      refine rw_val (v := .pointer (some ⟨u, 0, none⟩)) (w' := w4) rfl rfl rfl rfl (by simp [go_sem, sEv, sLook, nbeq, i64_w, -List.getD_eq_getElem?_getD, Try.underlying51]) ?_
      have hb11 := hb6
      refine rw_store (g := u) (i := 0) (l := [.string (strOfNums ys)]) (cs' := #[.string (strOfNums ys), .string (strOfNums r.next.R), .int .i64 r.next.st, .bool r.next.a, .bool r.next.b, .int .i64 r.next.l, .int .i64 r.next.u, .bool r.next.d]) rfl rfl rfl hb11 rfl (by have e0_ := hb11.cellv (i := 0) (v := (.string (strOfNums r.next.S) : Value)) rfl; have f0_ := hb11.frozen 0; simp [go_sem, sEv, sLook, nbeq, i64_w, -List.getD_eq_getElem?_getD, putCells, e0_, f0_]) ?_
      intro w8 hk9 hk10
      have hs_w8 := hk9.size
      refine rw_end ?_
      refine w_weaken (G' := [(0, .pointer (some ⟨u, 0, none⟩)), (4, .int .i64 0), (5, .int .i64 r.err)]) ⟨rfl, rfl, rfl, trivial⟩ ?_
      refine w_region ?_
      refine rw_val (v := .pointer (some ⟨u, 0, none⟩)) (w' := w8) rfl rfl rfl rfl rfl ?_
      refine rw_val (v := .pointer (some ⟨u, 0, none⟩)) (w' := w8) rfl rfl rfl rfl (by simp [go_sem, sEv, sLook, nbeq, i64_w, -List.getD_eq_getElem?_getD]) ?_
      refine rw_val (v := .pointer (some ⟨u, 1, none⟩)) (w' := w8) rfl rfl rfl rfl (by simp [go_sem, sEv, sLook, nbeq, i64_w, -List.getD_eq_getElem?_getD, Try.underlying51]) ?_
      have hb15 := hk10
      refine rw_store (g := u) (i := 1) (l := [.string (⟨#[]⟩ : ByteArray)]) (cs' := #[.string (strOfNums ys), .string (⟨#[]⟩ : ByteArray), .int .i64 r.next.st, .bool r.next.a, .bool r.next.b, .int .i64 r.next.l, .int .i64 r.next.u, .bool r.next.d]) rfl rfl rfl hb15 rfl (by have e0_ := hb15.cellv (i := 1) (v := (.string (strOfNums r.next.R) : Value)) rfl; have f0_ := hb15.frozen 1; simp [go_sem, sEv, sLook, nbeq, i64_w, -List.getD_eq_getElem?_getD, putCells, e0_, f0_]) ?_
      intro w12 hk13 hk14
      have hs_w12 := hk13.size
      refine rw_end ?_
      refine w_weaken (G' := [(4, .int .i64 0), (5, .int .i64 r.err)]) ⟨rfl, rfl, trivial⟩ ?_
      refine w_seq ?_
      refine w_region ?_
      refine rw_val (v := .int .i64 r.err) (w' := w12) rfl rfl rfl rfl rfl ?_
      refine rw_val (v := .int .i64 r.err) (w' := w12) rfl rfl rfl rfl rfl ?_
      refine rw_end ?_
      refine w_ret (post_ret1 rfl rfl ?_)
      have e1_ : r.repE ys = r.err := by unfold RS.repE; rw [if_neg (by have := of_decide_eq_false c1; omega)]
      rw [e1_]
      have e2_ : r.rep ys = (⟨ys, [], r.next.st, r.next.a, r.next.b, r.next.l, r.next.u, r.next.d⟩ : RS) := by unfold RS.rep; rw [if_neg (by have := of_decide_eq_false c1; omega)]; rw [if_pos cE]
      rw [e2_]
      exact ⟨rfl, ((hG5.trans (Grow.ofK hk9)).trans (Grow.ofK hk13)), hk14⟩
    · have l16 : ¬ r.err = 0 := by simpa using cE
      refine w_skip ?_
      refine w_seq ?_
      refine w_region ?_
      refine rw_val (v := .int .i64 r.err) (w' := w4) rfl rfl rfl rfl rfl ?_
      refine rw_val (v := .int .i64 r.err) (w' := w4) rfl rfl rfl rfl rfl ?_
      refine rw_end ?_
      refine w_ret (post_ret1 rfl rfl ?_)
      have e1_ : r.repE ys = r.err := by unfold RS.repE; rw [if_neg (by have := of_decide_eq_false c1; omega)]
      rw [e1_]
      have e2_ : r.rep ys = (⟨r.next.S, r.next.R, r.next.st, r.next.a, r.next.b, r.next.l, r.next.u, r.next.d⟩ : RS) := by unfold RS.rep; rw [if_neg (by have := of_decide_eq_false c1; omega)]; rw [if_neg (by simp [cE])]
      rw [e2_]
      exact ⟨rfl, hG5, hb6⟩
set_option maxHeartbeats 4000000 in
theorem rcut (w : World) (u : Nat) (r : RS) (hst : 0 ≤ r.st ∧ r.st ≤ 999999999) (hl : 0 ≤ r.l ∧ r.l ≤ 9223372036854775807) (hu_ : 0 ≤ r.u ∧ r.u ≤ 9223372036854775807) (hn : r.S.length + r.R.length ≤ 1048576) (hb : Blk w u 51 (rcells r)) :
    Calls Try.prog 35 #[.pointer (some ⟨u, 0, none⟩)] w fun e w' => e = .returned (.tuple #[]) ∧ Grow u w w' ∧ Blk w' u 51 (rcells r.cut) := by
  refine calls_flow Try.func35 rfl 10 rfl (Nat.le_of_ble_eq_true rfl) [(0, .pointer (some ⟨u, 0, none⟩))] ?_ ?_
  · intro t v h; exact args_look rfl t v h
  refine w_seq ?_
  refine w_region ?_
  refine rw_val (v := .pointer (some ⟨u, 0, none⟩)) (w' := w) rfl rfl rfl rfl rfl ?_
  refine rw_val (v := .pointer (some ⟨u, 0, none⟩)) (w' := w) rfl rfl rfl rfl (by simp [go_sem, sEv, sLook, nbeq, i64_w, -List.getD_eq_getElem?_getD]) ?_
  refine rw_val (v := .pointer (some ⟨u, 7, none⟩)) (w' := w) rfl rfl rfl rfl (by simp [go_sem, sEv, sLook, nbeq, i64_w, -List.getD_eq_getElem?_getD, Try.underlying51]) ?_
  refine rw_val (v := .bool r.d) (w' := w) rfl rfl rfl rfl (by have eb_ := hb; have e0_ := eb_.cellv (i := 7) (v := (.bool r.d : Value)) rfl; simp [go_sem, sEv, sLook, nbeq, i64_w, -List.getD_eq_getElem?_getD, e0_]) ?_
  refine rw_val (v := .bool (!r.d)) (w' := w) rfl rfl rfl rfl (by simp [go_sem, sEv, sLook, nbeq, i64_w, -List.getD_eq_getElem?_getD]) ?_
  refine rw_end ?_
  refine w_weaken (G' := [(0, .pointer (some ⟨u, 0, none⟩)), (6, .bool (!r.d))]) ⟨rfl, rfl, trivial⟩ ?_
  refine w_cond rfl rfl (fun c1 => ?_) (fun c1 => ?_)
  · refine w_region ?_
    refine rw_val (v := .pointer (some ⟨u, 0, none⟩)) (w' := w) rfl rfl rfl rfl rfl ?_
    refine rw_val (v := .pointer (some ⟨u, 0, none⟩)) (w' := w) rfl rfl rfl rfl (by simp [go_sem, sEv, sLook, nbeq, i64_w, -List.getD_eq_getElem?_getD]) ?_
    refine rw_val (v := .pointer (some ⟨u, 1, none⟩)) (w' := w) rfl rfl rfl rfl (by simp [go_sem, sEv, sLook, nbeq, i64_w, -List.getD_eq_getElem?_getD, Try.underlying51]) ?_
    have hb5 := hb
    refine rw_store (g := u) (i := 1) (l := [.string (⟨#[]⟩ : ByteArray)]) (cs' := #[.string (strOfNums r.S), .string (⟨#[]⟩ : ByteArray), .int .i64 r.st, .bool r.a, .bool r.b, .int .i64 r.l, .int .i64 r.u, .bool r.d]) rfl rfl rfl hb5 rfl (by have e0_ := hb5.cellv (i := 1) (v := (.string (strOfNums r.R) : Value)) rfl; have f0_ := hb5.frozen 1; simp [go_sem, sEv, sLook, nbeq, i64_w, -List.getD_eq_getElem?_getD, putCells, e0_, f0_]) ?_
    intro w2 hk3 hk4
    have hs_w2 := hk3.size
    refine rw_end ?_
    refine w_weaken (G' := []) trivial ?_
    refine w_end (post_end0 rfl ?_)
    have e2_ : r.cut = (⟨r.S, [], r.st, r.a, r.b, r.l, r.u, r.d⟩ : RS) := by rw [RS.cut, if_neg (by simp [(not_true c1)])]
    rw [e2_]
    exact ⟨rfl, (Grow.ofK hk3), hk4⟩
  · refine w_skip ?_
    refine w_end (post_end0 rfl ?_)
    have e2_ : r.cut = (⟨r.S, r.R, r.st, r.a, r.b, r.l, r.u, r.d⟩ : RS) := by rw [RS.cut, if_pos (not_false c1)]
    rw [e2_]
    exact ⟨rfl, (Grow.refl _ _), hb⟩
set_option maxHeartbeats 4000000 in
theorem rcrash (w : World) (u : Nat) (r : RS) (hst : 0 ≤ r.st ∧ r.st ≤ 999999999) (hl : 0 ≤ r.l ∧ r.l ≤ 9223372036854775807) (hu_ : 0 ≤ r.u ∧ r.u ≤ 9223372036854775807) (hn : r.S.length + r.R.length ≤ 1048576) (k : Int) (hb : Blk w u 51 (rcells r)) :
    Calls Try.prog 36 #[.pointer (some ⟨u, 0, none⟩), .int .i64 k] w fun e w' => e = .returned (.tuple #[]) ∧ Grow u w w' ∧ Blk w' u 51 (rcells (r.crash k)) := by
  refine calls_flow Try.func36 rfl 44 rfl (Nat.le_of_ble_eq_true rfl) [(0, .pointer (some ⟨u, 0, none⟩)), (1, .int .i64 k)] ?_ ?_
  · intro t v h; exact args_look rfl t v h
  refine w_seq ?_
  refine w_seq ?_
  refine w_region ?_
  refine rw_val (v := .int .i64 k) (w' := w) rfl rfl rfl rfl rfl ?_
  refine rw_val (v := .bool (decide (k < 0))) (w' := w) rfl rfl rfl rfl (by simp [go_sem, sEv, sLook, nbeq, i64_w, -List.getD_eq_getElem?_getD]) ?_
  refine rw_end ?_
  refine w_cond rfl rfl (fun c1 => ?_) (fun c1 => ?_)
  · have l2 : (k < 0) := of_decide_eq_true c1
    refine w_region ?_
    refine rw_val (v := .int .i64 0) (w' := w) rfl rfl rfl rfl rfl ?_
    refine rw_end ?_
    refine w_seq ?_
    refine w_seq ?_
    refine w_region ?_
    refine rw_val (v := .int .i64 0) (w' := w) rfl rfl rfl rfl rfl ?_
    refine rw_val (v := .pointer (some ⟨u, 0, none⟩)) (w' := w) rfl rfl rfl rfl rfl ?_
    refine rw_val (v := .pointer (some ⟨u, 0, none⟩)) (w' := w) rfl rfl rfl rfl (by simp [go_sem, sEv, sLook, nbeq, i64_w, -List.getD_eq_getElem?_getD]) ?_
    refine rw_val (v := .pointer (some ⟨u, 1, none⟩)) (w' := w) rfl rfl rfl rfl (by simp [go_sem, sEv, sLook, nbeq, i64_w, -List.getD_eq_getElem?_getD, Try.underlying51]) ?_
    refine rw_val (v := .string (strOfNums r.R)) (w' := w) rfl rfl rfl rfl (by have eb_ := hb; have e0_ := eb_.cellv (i := 1) (v := (.string (strOfNums r.R) : Value)) rfl; simp [go_sem, sEv, sLook, nbeq, i64_w, -List.getD_eq_getElem?_getD, e0_]) ?_
    refine rw_val (v := .int .i64 ((r.R.length : Nat) : Int)) (w' := w) rfl rfl rfl rfl (by simp [go_sem, sEv, sLook, nbeq, i64_w, -List.getD_eq_getElem?_getD, strOfNums_size]) ?_
    refine rw_val (v := .bool (decide (((r.R.length : Nat) : Int) < 0))) (w' := w) rfl rfl rfl rfl (by simp [go_sem, sEv, sLook, nbeq, i64_w, -List.getD_eq_getElem?_getD]) ?_
    refine rw_end ?_
    refine w_weaken (G' := [(0, .pointer (some ⟨u, 0, none⟩)), (1, .int .i64 0), (12, .bool (decide (((r.R.length : Nat) : Int) < 0)))]) ⟨rfl, rfl, rfl, trivial⟩ ?_
    refine w_cond rfl rfl (fun c3 => ?_) (fun c3 => ?_)
    · have l4 : (((r.R.length : Nat) : Int) < 0) := of_decide_eq_true c3
      refine w_region ?_
      refine rw_val (v := .pointer (some ⟨u, 0, none⟩)) (w' := w) rfl rfl rfl rfl rfl ?_
      refine rw_val (v := .pointer (some ⟨u, 0, none⟩)) (w' := w) rfl rfl rfl rfl (by simp [go_sem, sEv, sLook, nbeq, i64_w, -List.getD_eq_getElem?_getD]) ?_
      refine rw_val (v := .pointer (some ⟨u, 1, none⟩)) (w' := w) rfl rfl rfl rfl (by simp [go_sem, sEv, sLook, nbeq, i64_w, -List.getD_eq_getElem?_getD, Try.underlying51]) ?_
      refine rw_val (v := .string (strOfNums r.R)) (w' := w) rfl rfl rfl rfl (by have eb_ := hb; have e0_ := eb_.cellv (i := 1) (v := (.string (strOfNums r.R) : Value)) rfl; simp [go_sem, sEv, sLook, nbeq, i64_w, -List.getD_eq_getElem?_getD, e0_]) ?_
      refine rw_val (v := .int .i64 ((r.R.length : Nat) : Int)) (w' := w) rfl rfl rfl rfl (by simp [go_sem, sEv, sLook, nbeq, i64_w, -List.getD_eq_getElem?_getD, strOfNums_size]) ?_
      refine rw_val (v := .int .i64 ((r.R.length : Nat) : Int)) (w' := w) rfl rfl rfl rfl rfl ?_
      refine rw_end ?_
      refine w_weaken (G' := [(0, .pointer (some ⟨u, 0, none⟩)), (1, .int .i64 ((r.R.length : Nat) : Int))]) ⟨rfl, rfl, trivial⟩ ?_
      refine w_seq ?_
      refine w_drawk (M := [0, 0, 2, 6, 14, 0, 32, 96, 224, 0, 992, 2046, 4095, 8191, 16383]) (ss := [Is (.pointer (some ⟨u, 0, none⟩)), Is (.pointer (some ⟨u, 0, none⟩)), Is (.pointer (some ⟨u, 0, none⟩)), Is (.pointer (some ⟨u, 0, none⟩)), Is (.string (strOfNums r.S)), Is (.pointer (some ⟨u, 0, none⟩)), Is (.pointer (some ⟨u, 0, none⟩)), Is (.pointer (some ⟨u, 1, none⟩)), Is (.string (strOfNums r.R)), Is (.int .i64 ((r.R.length : Nat) : Int)), Is (.string (strOfNums (r.R.take ((r.R.length : Nat) : Int).toNat))), Is (.string (strOfNums (r.S ++ (r.R.take ((r.R.length : Nat) : Int).toNat))))]) 12 rfl (by decide +kernel) ?_
      refine t_is (.pointer (some ⟨u, 0, none⟩)) rfl rfl rfl rfl (fun W_ hW_ F_ => rfl) ?_
      refine t_is (.pointer (some ⟨u, 0, none⟩)) rfl rfl rfl rfl (fun W_ hW_ F_ => rfl) ?_
      refine t_is (.pointer (some ⟨u, 0, none⟩)) rfl rfl rfl rfl (fun W_ hW_ F_ => by simp [go_sem, sEv, sLook, nbeq, i64_w, -List.getD_eq_getElem?_getD]) ?_
      refine t_is (.pointer (some ⟨u, 0, none⟩)) rfl rfl rfl rfl (fun W_ hW_ F_ => by simp [go_sem, sEv, sLook, nbeq, i64_w, -List.getD_eq_getElem?_getD, Try.underlying51]) ?_
      refine t_is (.string (strOfNums r.S)) rfl rfl rfl rfl (fun W_ hW_ F_ => by have eb_ := (hb.on (below_of_drew hW_)); have e0_ := eb_.cellv (i := 0) (v := (.string (strOfNums r.S) : Value)) rfl; simp [go_sem, sEv, sLook, nbeq, i64_w, -List.getD_eq_getElem?_getD, e0_]) ?_
      refine t_is (.pointer (some ⟨u, 0, none⟩)) rfl rfl rfl rfl (fun W_ hW_ F_ => rfl) ?_
      refine t_is (.pointer (some ⟨u, 0, none⟩)) rfl rfl rfl rfl (fun W_ hW_ F_ => by simp [go_sem, sEv, sLook, nbeq, i64_w, -List.getD_eq_getElem?_getD]) ?_
      refine t_is (.pointer (some ⟨u, 1, none⟩)) rfl rfl rfl rfl (fun W_ hW_ F_ => by simp [go_sem, sEv, sLook, nbeq, i64_w, -List.getD_eq_getElem?_getD, Try.underlying51]) ?_
      refine t_is (.string (strOfNums r.R)) rfl rfl rfl rfl (fun W_ hW_ F_ => by have eb_ := (hb.on (below_of_drew hW_)); have e0_ := eb_.cellv (i := 1) (v := (.string (strOfNums r.R) : Value)) rfl; simp [go_sem, sEv, sLook, nbeq, i64_w, -List.getD_eq_getElem?_getD, e0_]) ?_
      refine t_is (.int .i64 ((r.R.length : Nat) : Int)) rfl rfl rfl rfl (fun W_ hW_ F_ => rfl) ?_
      refine t_is (.string (strOfNums (r.R.take ((r.R.length : Nat) : Int).toNat))) rfl rfl rfl rfl (fun W_ hW_ F_ => (run_as (str_to (t := 9) (by kernel_rfl) r.R ((r.R.length : Nat) : Int) (by omega) (by omega) _))) ?_
      refine t_is (.string (strOfNums (r.S ++ (r.R.take ((r.R.length : Nat) : Int).toNat)))) rfl rfl rfl rfl (fun W_ hW_ F_ => (run_as (run_str_add (t := 9) r.S (r.R.take ((r.R.length : Nat) : Int).toNat) (by have h_ := r.next_SR; (try simp only [h_.1, h_.2, List.length_take]); omega) _))) ?_
      refine t_tail ?_
      intro w5 hb6_ F7
      have hb6 := below_of_drew hb6_
      have hs_w5 := hb6.size
      refine rw_val (v := .pointer (some ⟨u, 0, none⟩)) (w' := w5) rfl rfl rfl rfl (by simp [go_sem, sEv, sLook, nbeq, i64_w, -List.getD_eq_getElem?_getD]) ?_
      refine rw_val (v := .pointer (some ⟨u, 0, none⟩)) (w' := w5) rfl rfl rfl rfl (by simp [go_sem, sEv, sLook, nbeq, i64_w, -List.getD_eq_getElem?_getD, Try.underlying51]) ?_
      have hb11 := (hb.on hb6)
      refine rw_store (g := u) (i := 0) (l := [.string (strOfNums (r.S ++ (r.R.take ((r.R.length : Nat) : Int).toNat)))]) (cs' := #[.string (strOfNums (r.S ++ (r.R.take ((r.R.length : Nat) : Int).toNat))), .string (strOfNums r.R), .int .i64 r.st, .bool r.a, .bool r.b, .int .i64 r.l, .int .i64 r.u, .bool r.d]) rfl rfl rfl hb11 rfl (by have e0_ := hb11.cellv (i := 0) (v := (.string (strOfNums r.S) : Value)) rfl; have f0_ := hb11.frozen 0; simp [go_sem, sEv, sLook, nbeq, i64_w, -List.getD_eq_getElem?_getD, putCells, e0_, f0_]) ?_
      intro w8 hk9 hk10
      have hs_w8 := hk9.size
      refine rw_end ?_
      refine w_weaken (G' := [(0, .pointer (some ⟨u, 0, none⟩))]) ⟨rfl, trivial⟩ ?_
      refine w_seq ?_
      refine w_region ?_
      refine rw_val (v := .pointer (some ⟨u, 0, none⟩)) (w' := w8) rfl rfl rfl rfl rfl ?_
      refine rw_val (v := .pointer (some ⟨u, 0, none⟩)) (w' := w8) rfl rfl rfl rfl (by simp [go_sem, sEv, sLook, nbeq, i64_w, -List.getD_eq_getElem?_getD]) ?_
      refine rw_val (v := .pointer (some ⟨u, 1, none⟩)) (w' := w8) rfl rfl rfl rfl (by simp [go_sem, sEv, sLook, nbeq, i64_w, -List.getD_eq_getElem?_getD, Try.underlying51]) ?_
      have hb15 := hk10
      refine rw_store (g := u) (i := 1) (l := [.string (⟨#[]⟩ : ByteArray)]) (cs' := #[.string (strOfNums (r.S ++ (r.R.take ((r.R.length : Nat) : Int).toNat))), .string (⟨#[]⟩ : ByteArray), .int .i64 r.st, .bool r.a, .bool r.b, .int .i64 r.l, .int .i64 r.u, .bool r.d]) rfl rfl rfl hb15 rfl (by have e0_ := hb15.cellv (i := 1) (v := (.string (strOfNums r.R) : Value)) rfl; have f0_ := hb15.frozen 1; simp [go_sem, sEv, sLook, nbeq, i64_w, -List.getD_eq_getElem?_getD, putCells, e0_, f0_]) ?_
      intro w12 hk13 hk14
      have hs_w12 := hk13.size
      refine rw_end ?_
      refine w_weaken (G' := [(0, .pointer (some ⟨u, 0, none⟩))]) ⟨rfl, trivial⟩ ?_
      refine w_seq ?_
      refine w_region ?_
      refine rw_val (v := .pointer (some ⟨u, 0, none⟩)) (w' := w12) rfl rfl rfl rfl rfl ?_
      refine rw_val (v := .pointer (some ⟨u, 0, none⟩)) (w' := w12) rfl rfl rfl rfl (by simp [go_sem, sEv, sLook, nbeq, i64_w, -List.getD_eq_getElem?_getD]) ?_
      refine rw_val (v := .pointer (some ⟨u, 3, none⟩)) (w' := w12) rfl rfl rfl rfl (by simp [go_sem, sEv, sLook, nbeq, i64_w, -List.getD_eq_getElem?_getD, Try.underlying51]) ?_
      have hb19 := hk14
      refine rw_store (g := u) (i := 3) (l := [.bool false]) (cs' := #[.string (strOfNums (r.S ++ (r.R.take ((r.R.length : Nat) : Int).toNat))), .string (⟨#[]⟩ : ByteArray), .int .i64 r.st, .bool false, .bool r.b, .int .i64 r.l, .int .i64 r.u, .bool r.d]) rfl rfl rfl hb19 rfl (by have e0_ := hb19.cellv (i := 3) (v := (.bool r.a : Value)) rfl; have f0_ := hb19.frozen 3; simp [go_sem, sEv, sLook, nbeq, i64_w, -List.getD_eq_getElem?_getD, putCells, e0_, f0_]) ?_
      intro w16 hk17 hk18
      have hs_w16 := hk17.size
      refine rw_end ?_
      refine w_weaken (G' := [(0, .pointer (some ⟨u, 0, none⟩))]) ⟨rfl, trivial⟩ ?_
      refine w_seq ?_
      refine w_region ?_
      refine rw_val (v := .pointer (some ⟨u, 0, none⟩)) (w' := w16) rfl rfl rfl rfl rfl ?_
      refine rw_val (v := .pointer (some ⟨u, 0, none⟩)) (w' := w16) rfl rfl rfl rfl (by simp [go_sem, sEv, sLook, nbeq, i64_w, -List.getD_eq_getElem?_getD]) ?_
      refine rw_val (v := .pointer (some ⟨u, 4, none⟩)) (w' := w16) rfl rfl rfl rfl (by simp [go_sem, sEv, sLook, nbeq, i64_w, -List.getD_eq_getElem?_getD, Try.underlying51]) ?_
      have hb23 := hk18
      refine rw_store (g := u) (i := 4) (l := [.bool false]) (cs' := #[.string (strOfNums (r.S ++ (r.R.take ((r.R.length : Nat) : Int).toNat))), .string (⟨#[]⟩ : ByteArray), .int .i64 r.st, .bool false, .bool false, .int .i64 r.l, .int .i64 r.u, .bool r.d]) rfl rfl rfl hb23 rfl (by have e0_ := hb23.cellv (i := 4) (v := (.bool r.b : Value)) rfl; have f0_ := hb23.frozen 4; simp [go_sem, sEv, sLook, nbeq, i64_w, -List.getD_eq_getElem?_getD, putCells, e0_, f0_]) ?_
      intro w20 hk21 hk22
      have hs_w20 := hk21.size
      refine rw_end ?_
      refine w_weaken (G' := [(0, .pointer (some ⟨u, 0, none⟩))]) ⟨rfl, trivial⟩ ?_
      refine w_region ?_
      refine rw_val (v := .pointer (some ⟨u, 0, none⟩)) (w' := w20) rfl rfl rfl rfl rfl ?_
      refine rw_val (v := .pointer (some ⟨u, 0, none⟩)) (w' := w20) rfl rfl rfl rfl (by simp [go_sem, sEv, sLook, nbeq, i64_w, -List.getD_eq_getElem?_getD]) ?_
      refine rw_val (v := .pointer (some ⟨u, 7, none⟩)) (w' := w20) rfl rfl rfl rfl (by simp [go_sem, sEv, sLook, nbeq, i64_w, -List.getD_eq_getElem?_getD, Try.underlying51]) ?_
      have hb27 := hk22
      refine rw_store (g := u) (i := 7) (l := [.bool false]) (cs' := #[.string (strOfNums (r.S ++ (r.R.take ((r.R.length : Nat) : Int).toNat))), .string (⟨#[]⟩ : ByteArray), .int .i64 r.st, .bool false, .bool false, .int .i64 r.l, .int .i64 r.u, .bool false]) rfl rfl rfl hb27 rfl (by have e0_ := hb27.cellv (i := 7) (v := (.bool r.d : Value)) rfl; have f0_ := hb27.frozen 7; simp [go_sem, sEv, sLook, nbeq, i64_w, -List.getD_eq_getElem?_getD, putCells, e0_, f0_]) ?_
      intro w24 hk25 hk26
      have hs_w24 := hk25.size
      refine rw_end ?_
      refine w_weaken (G' := []) trivial ?_
      refine w_end (post_end0 rfl ?_)
      have e2_ : r.crash k = (⟨(r.S ++ (r.R.take ((r.R.length : Nat) : Int).toNat)), [], r.st, false, false, r.l, r.u, false⟩ : RS) := by have e3_ : r.left k = ((r.R.length : Nat) : Int).toNat := (by unfold RS.left; omega); rw [RS.crash, e3_]
      rw [e2_]
      exact ⟨rfl, ((((((Grow.ofB hb6).trans (Grow.ofK hk9)).trans (Grow.ofK hk13)).trans (Grow.ofK hk17)).trans (Grow.ofK hk21)).trans (Grow.ofK hk25)), hk26⟩
    · have l28 : ¬ (((r.R.length : Nat) : Int) < 0) := of_decide_eq_false c3
      refine w_skip ?_
      refine w_seq ?_
      refine w_drawk (M := [0, 0, 2, 6, 14, 0, 32, 96, 224, 0, 992, 2046, 4095, 8191, 16383]) (ss := [Is (.pointer (some ⟨u, 0, none⟩)), Is (.pointer (some ⟨u, 0, none⟩)), Is (.pointer (some ⟨u, 0, none⟩)), Is (.pointer (some ⟨u, 0, none⟩)), Is (.string (strOfNums r.S)), Is (.pointer (some ⟨u, 0, none⟩)), Is (.pointer (some ⟨u, 0, none⟩)), Is (.pointer (some ⟨u, 1, none⟩)), Is (.string (strOfNums r.R)), Is (.int .i64 0), Is (.string (strOfNums (r.R.take (0 : Int).toNat))), Is (.string (strOfNums (r.S ++ (r.R.take (0 : Int).toNat))))]) 12 rfl (by decide +kernel) ?_
      refine t_is (.pointer (some ⟨u, 0, none⟩)) rfl rfl rfl rfl (fun W_ hW_ F_ => rfl) ?_
      refine t_is (.pointer (some ⟨u, 0, none⟩)) rfl rfl rfl rfl (fun W_ hW_ F_ => rfl) ?_
      refine t_is (.pointer (some ⟨u, 0, none⟩)) rfl rfl rfl rfl (fun W_ hW_ F_ => by simp [go_sem, sEv, sLook, nbeq, i64_w, -List.getD_eq_getElem?_getD]) ?_
      refine t_is (.pointer (some ⟨u, 0, none⟩)) rfl rfl rfl rfl (fun W_ hW_ F_ => by simp [go_sem, sEv, sLook, nbeq, i64_w, -List.getD_eq_getElem?_getD, Try.underlying51]) ?_
      refine t_is (.string (strOfNums r.S)) rfl rfl rfl rfl (fun W_ hW_ F_ => by have eb_ := (hb.on (below_of_drew hW_)); have e0_ := eb_.cellv (i := 0) (v := (.string (strOfNums r.S) : Value)) rfl; simp [go_sem, sEv, sLook, nbeq, i64_w, -List.getD_eq_getElem?_getD, e0_]) ?_
      refine t_is (.pointer (some ⟨u, 0, none⟩)) rfl rfl rfl rfl (fun W_ hW_ F_ => rfl) ?_
      refine t_is (.pointer (some ⟨u, 0, none⟩)) rfl rfl rfl rfl (fun W_ hW_ F_ => by simp [go_sem, sEv, sLook, nbeq, i64_w, -List.getD_eq_getElem?_getD]) ?_
      refine t_is (.pointer (some ⟨u, 1, none⟩)) rfl rfl rfl rfl (fun W_ hW_ F_ => by simp [go_sem, sEv, sLook, nbeq, i64_w, -List.getD_eq_getElem?_getD, Try.underlying51]) ?_
      refine t_is (.string (strOfNums r.R)) rfl rfl rfl rfl (fun W_ hW_ F_ => by have eb_ := (hb.on (below_of_drew hW_)); have e0_ := eb_.cellv (i := 1) (v := (.string (strOfNums r.R) : Value)) rfl; simp [go_sem, sEv, sLook, nbeq, i64_w, -List.getD_eq_getElem?_getD, e0_]) ?_
      refine t_is (.int .i64 0) rfl rfl rfl rfl (fun W_ hW_ F_ => rfl) ?_
      refine t_is (.string (strOfNums (r.R.take (0 : Int).toNat))) rfl rfl rfl rfl (fun W_ hW_ F_ => (run_as (str_to (t := 9) (by kernel_rfl) r.R (0 : Int) (by omega) (by omega) _))) ?_
      refine t_is (.string (strOfNums (r.S ++ (r.R.take (0 : Int).toNat)))) rfl rfl rfl rfl (fun W_ hW_ F_ => (run_as (run_str_add (t := 9) r.S (r.R.take (0 : Int).toNat) (by have h_ := r.next_SR; (try simp only [h_.1, h_.2, List.length_take]); omega) _))) ?_
      refine t_tail ?_
      intro w29 hb30_ F31
      have hb30 := below_of_drew hb30_
      have hs_w29 := hb30.size
      refine rw_val (v := .pointer (some ⟨u, 0, none⟩)) (w' := w29) rfl rfl rfl rfl (by simp [go_sem, sEv, sLook, nbeq, i64_w, -List.getD_eq_getElem?_getD]) ?_
      refine rw_val (v := .pointer (some ⟨u, 0, none⟩)) (w' := w29) rfl rfl rfl rfl (by simp [go_sem, sEv, sLook, nbeq, i64_w, -List.getD_eq_getElem?_getD, Try.underlying51]) ?_
      have hb35 := (hb.on hb30)
      refine rw_store (g := u) (i := 0) (l := [.string (strOfNums (r.S ++ (r.R.take (0 : Int).toNat)))]) (cs' := #[.string (strOfNums (r.S ++ (r.R.take (0 : Int).toNat))), .string (strOfNums r.R), .int .i64 r.st, .bool r.a, .bool r.b, .int .i64 r.l, .int .i64 r.u, .bool r.d]) rfl rfl rfl hb35 rfl (by have e0_ := hb35.cellv (i := 0) (v := (.string (strOfNums r.S) : Value)) rfl; have f0_ := hb35.frozen 0; simp [go_sem, sEv, sLook, nbeq, i64_w, -List.getD_eq_getElem?_getD, putCells, e0_, f0_]) ?_
      intro w32 hk33 hk34
      have hs_w32 := hk33.size
      refine rw_end ?_
      refine w_weaken (G' := [(0, .pointer (some ⟨u, 0, none⟩))]) ⟨rfl, trivial⟩ ?_
      refine w_seq ?_
      refine w_region ?_
      refine rw_val (v := .pointer (some ⟨u, 0, none⟩)) (w' := w32) rfl rfl rfl rfl rfl ?_
      refine rw_val (v := .pointer (some ⟨u, 0, none⟩)) (w' := w32) rfl rfl rfl rfl (by simp [go_sem, sEv, sLook, nbeq, i64_w, -List.getD_eq_getElem?_getD]) ?_
      refine rw_val (v := .pointer (some ⟨u, 1, none⟩)) (w' := w32) rfl rfl rfl rfl (by simp [go_sem, sEv, sLook, nbeq, i64_w, -List.getD_eq_getElem?_getD, Try.underlying51]) ?_
      have hb39 := hk34
      refine rw_store (g := u) (i := 1) (l := [.string (⟨#[]⟩ : ByteArray)]) (cs' := #[.string (strOfNums (r.S ++ (r.R.take (0 : Int).toNat))), .string (⟨#[]⟩ : ByteArray), .int .i64 r.st, .bool r.a, .bool r.b, .int .i64 r.l, .int .i64 r.u, .bool r.d]) rfl rfl rfl hb39 rfl (by have e0_ := hb39.cellv (i := 1) (v := (.string (strOfNums r.R) : Value)) rfl; have f0_ := hb39.frozen 1; simp [go_sem, sEv, sLook, nbeq, i64_w, -List.getD_eq_getElem?_getD, putCells, e0_, f0_]) ?_
      intro w36 hk37 hk38
      have hs_w36 := hk37.size
      refine rw_end ?_
      refine w_weaken (G' := [(0, .pointer (some ⟨u, 0, none⟩))]) ⟨rfl, trivial⟩ ?_
      refine w_seq ?_
      refine w_region ?_
      refine rw_val (v := .pointer (some ⟨u, 0, none⟩)) (w' := w36) rfl rfl rfl rfl rfl ?_
      refine rw_val (v := .pointer (some ⟨u, 0, none⟩)) (w' := w36) rfl rfl rfl rfl (by simp [go_sem, sEv, sLook, nbeq, i64_w, -List.getD_eq_getElem?_getD]) ?_
      refine rw_val (v := .pointer (some ⟨u, 3, none⟩)) (w' := w36) rfl rfl rfl rfl (by simp [go_sem, sEv, sLook, nbeq, i64_w, -List.getD_eq_getElem?_getD, Try.underlying51]) ?_
      have hb43 := hk38
      refine rw_store (g := u) (i := 3) (l := [.bool false]) (cs' := #[.string (strOfNums (r.S ++ (r.R.take (0 : Int).toNat))), .string (⟨#[]⟩ : ByteArray), .int .i64 r.st, .bool false, .bool r.b, .int .i64 r.l, .int .i64 r.u, .bool r.d]) rfl rfl rfl hb43 rfl (by have e0_ := hb43.cellv (i := 3) (v := (.bool r.a : Value)) rfl; have f0_ := hb43.frozen 3; simp [go_sem, sEv, sLook, nbeq, i64_w, -List.getD_eq_getElem?_getD, putCells, e0_, f0_]) ?_
      intro w40 hk41 hk42
      have hs_w40 := hk41.size
      refine rw_end ?_
      refine w_weaken (G' := [(0, .pointer (some ⟨u, 0, none⟩))]) ⟨rfl, trivial⟩ ?_
      refine w_seq ?_
      refine w_region ?_
      refine rw_val (v := .pointer (some ⟨u, 0, none⟩)) (w' := w40) rfl rfl rfl rfl rfl ?_
      refine rw_val (v := .pointer (some ⟨u, 0, none⟩)) (w' := w40) rfl rfl rfl rfl (by simp [go_sem, sEv, sLook, nbeq, i64_w, -List.getD_eq_getElem?_getD]) ?_
      refine rw_val (v := .pointer (some ⟨u, 4, none⟩)) (w' := w40) rfl rfl rfl rfl (by simp [go_sem, sEv, sLook, nbeq, i64_w, -List.getD_eq_getElem?_getD, Try.underlying51]) ?_
      have hb47 := hk42
      refine rw_store (g := u) (i := 4) (l := [.bool false]) (cs' := #[.string (strOfNums (r.S ++ (r.R.take (0 : Int).toNat))), .string (⟨#[]⟩ : ByteArray), .int .i64 r.st, .bool false, .bool false, .int .i64 r.l, .int .i64 r.u, .bool r.d]) rfl rfl rfl hb47 rfl (by have e0_ := hb47.cellv (i := 4) (v := (.bool r.b : Value)) rfl; have f0_ := hb47.frozen 4; simp [go_sem, sEv, sLook, nbeq, i64_w, -List.getD_eq_getElem?_getD, putCells, e0_, f0_]) ?_
      intro w44 hk45 hk46
      have hs_w44 := hk45.size
      refine rw_end ?_
      refine w_weaken (G' := [(0, .pointer (some ⟨u, 0, none⟩))]) ⟨rfl, trivial⟩ ?_
      refine w_region ?_
      refine rw_val (v := .pointer (some ⟨u, 0, none⟩)) (w' := w44) rfl rfl rfl rfl rfl ?_
      refine rw_val (v := .pointer (some ⟨u, 0, none⟩)) (w' := w44) rfl rfl rfl rfl (by simp [go_sem, sEv, sLook, nbeq, i64_w, -List.getD_eq_getElem?_getD]) ?_
      refine rw_val (v := .pointer (some ⟨u, 7, none⟩)) (w' := w44) rfl rfl rfl rfl (by simp [go_sem, sEv, sLook, nbeq, i64_w, -List.getD_eq_getElem?_getD, Try.underlying51]) ?_
      have hb51 := hk46
      refine rw_store (g := u) (i := 7) (l := [.bool false]) (cs' := #[.string (strOfNums (r.S ++ (r.R.take (0 : Int).toNat))), .string (⟨#[]⟩ : ByteArray), .int .i64 r.st, .bool false, .bool false, .int .i64 r.l, .int .i64 r.u, .bool false]) rfl rfl rfl hb51 rfl (by have e0_ := hb51.cellv (i := 7) (v := (.bool r.d : Value)) rfl; have f0_ := hb51.frozen 7; simp [go_sem, sEv, sLook, nbeq, i64_w, -List.getD_eq_getElem?_getD, putCells, e0_, f0_]) ?_
      intro w48 hk49 hk50
      have hs_w48 := hk49.size
      refine rw_end ?_
      refine w_weaken (G' := []) trivial ?_
      refine w_end (post_end0 rfl ?_)
      have e2_ : r.crash k = (⟨(r.S ++ (r.R.take (0 : Int).toNat)), [], r.st, false, false, r.l, r.u, false⟩ : RS) := by have e3_ : r.left k = (0 : Int).toNat := (by unfold RS.left; omega); rw [RS.crash, e3_]
      rw [e2_]
      exact ⟨rfl, ((((((Grow.ofB hb30).trans (Grow.ofK hk33)).trans (Grow.ofK hk37)).trans (Grow.ofK hk41)).trans (Grow.ofK hk45)).trans (Grow.ofK hk49)), hk50⟩
  · have l52 : ¬ (k < 0) := of_decide_eq_false c1
    refine w_skip ?_
    refine w_seq ?_
    refine w_seq ?_
    refine w_region ?_
    refine rw_val (v := .int .i64 k) (w' := w) rfl rfl rfl rfl rfl ?_
    refine rw_val (v := .pointer (some ⟨u, 0, none⟩)) (w' := w) rfl rfl rfl rfl rfl ?_
    refine rw_val (v := .pointer (some ⟨u, 0, none⟩)) (w' := w) rfl rfl rfl rfl (by simp [go_sem, sEv, sLook, nbeq, i64_w, -List.getD_eq_getElem?_getD]) ?_
    refine rw_val (v := .pointer (some ⟨u, 1, none⟩)) (w' := w) rfl rfl rfl rfl (by simp [go_sem, sEv, sLook, nbeq, i64_w, -List.getD_eq_getElem?_getD, Try.underlying51]) ?_
    refine rw_val (v := .string (strOfNums r.R)) (w' := w) rfl rfl rfl rfl (by have eb_ := hb; have e0_ := eb_.cellv (i := 1) (v := (.string (strOfNums r.R) : Value)) rfl; simp [go_sem, sEv, sLook, nbeq, i64_w, -List.getD_eq_getElem?_getD, e0_]) ?_
    refine rw_val (v := .int .i64 ((r.R.length : Nat) : Int)) (w' := w) rfl rfl rfl rfl (by simp [go_sem, sEv, sLook, nbeq, i64_w, -List.getD_eq_getElem?_getD, strOfNums_size]) ?_
    refine rw_val (v := .bool (decide (((r.R.length : Nat) : Int) < k))) (w' := w) rfl rfl rfl rfl (by simp [go_sem, sEv, sLook, nbeq, i64_w, -List.getD_eq_getElem?_getD]) ?_
    refine rw_end ?_
    refine w_weaken (G' := [(0, .pointer (some ⟨u, 0, none⟩)), (1, .int .i64 k), (12, .bool (decide (((r.R.length : Nat) : Int) < k)))]) ⟨rfl, rfl, rfl, trivial⟩ ?_
    refine w_cond rfl rfl (fun c53 => ?_) (fun c53 => ?_)
    · have l54 : (((r.R.length : Nat) : Int) < k) := of_decide_eq_true c53
      refine w_region ?_
      refine rw_val (v := .pointer (some ⟨u, 0, none⟩)) (w' := w) rfl rfl rfl rfl rfl ?_
      refine rw_val (v := .pointer (some ⟨u, 0, none⟩)) (w' := w) rfl rfl rfl rfl (by simp [go_sem, sEv, sLook, nbeq, i64_w, -List.getD_eq_getElem?_getD]) ?_
      refine rw_val (v := .pointer (some ⟨u, 1, none⟩)) (w' := w) rfl rfl rfl rfl (by simp [go_sem, sEv, sLook, nbeq, i64_w, -List.getD_eq_getElem?_getD, Try.underlying51]) ?_
      refine rw_val (v := .string (strOfNums r.R)) (w' := w) rfl rfl rfl rfl (by have eb_ := hb; have e0_ := eb_.cellv (i := 1) (v := (.string (strOfNums r.R) : Value)) rfl; simp [go_sem, sEv, sLook, nbeq, i64_w, -List.getD_eq_getElem?_getD, e0_]) ?_
      refine rw_val (v := .int .i64 ((r.R.length : Nat) : Int)) (w' := w) rfl rfl rfl rfl (by simp [go_sem, sEv, sLook, nbeq, i64_w, -List.getD_eq_getElem?_getD, strOfNums_size]) ?_
      refine rw_val (v := .int .i64 ((r.R.length : Nat) : Int)) (w' := w) rfl rfl rfl rfl rfl ?_
      refine rw_end ?_
      refine w_weaken (G' := [(0, .pointer (some ⟨u, 0, none⟩)), (1, .int .i64 ((r.R.length : Nat) : Int))]) ⟨rfl, rfl, trivial⟩ ?_
      refine w_seq ?_
      refine w_drawk (M := [0, 0, 2, 6, 14, 0, 32, 96, 224, 0, 992, 2046, 4095, 8191, 16383]) (ss := [Is (.pointer (some ⟨u, 0, none⟩)), Is (.pointer (some ⟨u, 0, none⟩)), Is (.pointer (some ⟨u, 0, none⟩)), Is (.pointer (some ⟨u, 0, none⟩)), Is (.string (strOfNums r.S)), Is (.pointer (some ⟨u, 0, none⟩)), Is (.pointer (some ⟨u, 0, none⟩)), Is (.pointer (some ⟨u, 1, none⟩)), Is (.string (strOfNums r.R)), Is (.int .i64 ((r.R.length : Nat) : Int)), Is (.string (strOfNums (r.R.take ((r.R.length : Nat) : Int).toNat))), Is (.string (strOfNums (r.S ++ (r.R.take ((r.R.length : Nat) : Int).toNat))))]) 12 rfl (by decide +kernel) ?_
      refine t_is (.pointer (some ⟨u, 0, none⟩)) rfl rfl rfl rfl (fun W_ hW_ F_ => rfl) ?_
      refine t_is (.pointer (some ⟨u, 0, none⟩)) rfl rfl rfl rfl (fun W_ hW_ F_ => rfl) ?_
      refine t_is (.pointer (some ⟨u, 0, none⟩)) rfl rfl rfl rfl (fun W_ hW_ F_ => by simp [go_sem, sEv, sLook, nbeq, i64_w, -List.getD_eq_getElem?_getD]) ?_
      refine t_is (.pointer (some ⟨u, 0, none⟩)) rfl rfl rfl rfl (fun W_ hW_ F_ => by simp [go_sem, sEv, sLook, nbeq, i64_w, -List.getD_eq_getElem?_getD, Try.underlying51]) ?_
      refine t_is (.string (strOfNums r.S)) rfl rfl rfl rfl (fun W_ hW_ F_ => by have eb_ := (hb.on (below_of_drew hW_)); have e0_ := eb_.cellv (i := 0) (v := (.string (strOfNums r.S) : Value)) rfl; simp [go_sem, sEv, sLook, nbeq, i64_w, -List.getD_eq_getElem?_getD, e0_]) ?_
      refine t_is (.pointer (some ⟨u, 0, none⟩)) rfl rfl rfl rfl (fun W_ hW_ F_ => rfl) ?_
      refine t_is (.pointer (some ⟨u, 0, none⟩)) rfl rfl rfl rfl (fun W_ hW_ F_ => by simp [go_sem, sEv, sLook, nbeq, i64_w, -List.getD_eq_getElem?_getD]) ?_
      refine t_is (.pointer (some ⟨u, 1, none⟩)) rfl rfl rfl rfl (fun W_ hW_ F_ => by simp [go_sem, sEv, sLook, nbeq, i64_w, -List.getD_eq_getElem?_getD, Try.underlying51]) ?_
      refine t_is (.string (strOfNums r.R)) rfl rfl rfl rfl (fun W_ hW_ F_ => by have eb_ := (hb.on (below_of_drew hW_)); have e0_ := eb_.cellv (i := 1) (v := (.string (strOfNums r.R) : Value)) rfl; simp [go_sem, sEv, sLook, nbeq, i64_w, -List.getD_eq_getElem?_getD, e0_]) ?_
      refine t_is (.int .i64 ((r.R.length : Nat) : Int)) rfl rfl rfl rfl (fun W_ hW_ F_ => rfl) ?_
      refine t_is (.string (strOfNums (r.R.take ((r.R.length : Nat) : Int).toNat))) rfl rfl rfl rfl (fun W_ hW_ F_ => (run_as (str_to (t := 9) (by kernel_rfl) r.R ((r.R.length : Nat) : Int) (by omega) (by omega) _))) ?_
      refine t_is (.string (strOfNums (r.S ++ (r.R.take ((r.R.length : Nat) : Int).toNat)))) rfl rfl rfl rfl (fun W_ hW_ F_ => (run_as (run_str_add (t := 9) r.S (r.R.take ((r.R.length : Nat) : Int).toNat) (by have h_ := r.next_SR; (try simp only [h_.1, h_.2, List.length_take]); omega) _))) ?_
      refine t_tail ?_
      intro w55 hb56_ F57
      have hb56 := below_of_drew hb56_
      have hs_w55 := hb56.size
      refine rw_val (v := .pointer (some ⟨u, 0, none⟩)) (w' := w55) rfl rfl rfl rfl (by simp [go_sem, sEv, sLook, nbeq, i64_w, -List.getD_eq_getElem?_getD]) ?_
      refine rw_val (v := .pointer (some ⟨u, 0, none⟩)) (w' := w55) rfl rfl rfl rfl (by simp [go_sem, sEv, sLook, nbeq, i64_w, -List.getD_eq_getElem?_getD, Try.underlying51]) ?_
      have hb61 := (hb.on hb56)
      refine rw_store (g := u) (i := 0) (l := [.string (strOfNums (r.S ++ (r.R.take ((r.R.length : Nat) : Int).toNat)))]) (cs' := #[.string (strOfNums (r.S ++ (r.R.take ((r.R.length : Nat) : Int).toNat))), .string (strOfNums r.R), .int .i64 r.st, .bool r.a, .bool r.b, .int .i64 r.l, .int .i64 r.u, .bool r.d]) rfl rfl rfl hb61 rfl (by have e0_ := hb61.cellv (i := 0) (v := (.string (strOfNums r.S) : Value)) rfl; have f0_ := hb61.frozen 0; simp [go_sem, sEv, sLook, nbeq, i64_w, -List.getD_eq_getElem?_getD, putCells, e0_, f0_]) ?_
      intro w58 hk59 hk60
      have hs_w58 := hk59.size
      refine rw_end ?_
      refine w_weaken (G' := [(0, .pointer (some ⟨u, 0, none⟩))]) ⟨rfl, trivial⟩ ?_
      refine w_seq ?_
      refine w_region ?_
      refine rw_val (v := .pointer (some ⟨u, 0, none⟩)) (w' := w58) rfl rfl rfl rfl rfl ?_
      refine rw_val (v := .pointer (some ⟨u, 0, none⟩)) (w' := w58) rfl rfl rfl rfl (by simp [go_sem, sEv, sLook, nbeq, i64_w, -List.getD_eq_getElem?_getD]) ?_
      refine rw_val (v := .pointer (some ⟨u, 1, none⟩)) (w' := w58) rfl rfl rfl rfl (by simp [go_sem, sEv, sLook, nbeq, i64_w, -List.getD_eq_getElem?_getD, Try.underlying51]) ?_
      have hb65 := hk60
      refine rw_store (g := u) (i := 1) (l := [.string (⟨#[]⟩ : ByteArray)]) (cs' := #[.string (strOfNums (r.S ++ (r.R.take ((r.R.length : Nat) : Int).toNat))), .string (⟨#[]⟩ : ByteArray), .int .i64 r.st, .bool r.a, .bool r.b, .int .i64 r.l, .int .i64 r.u, .bool r.d]) rfl rfl rfl hb65 rfl (by have e0_ := hb65.cellv (i := 1) (v := (.string (strOfNums r.R) : Value)) rfl; have f0_ := hb65.frozen 1; simp [go_sem, sEv, sLook, nbeq, i64_w, -List.getD_eq_getElem?_getD, putCells, e0_, f0_]) ?_
      intro w62 hk63 hk64
      have hs_w62 := hk63.size
      refine rw_end ?_
      refine w_weaken (G' := [(0, .pointer (some ⟨u, 0, none⟩))]) ⟨rfl, trivial⟩ ?_
      refine w_seq ?_
      refine w_region ?_
      refine rw_val (v := .pointer (some ⟨u, 0, none⟩)) (w' := w62) rfl rfl rfl rfl rfl ?_
      refine rw_val (v := .pointer (some ⟨u, 0, none⟩)) (w' := w62) rfl rfl rfl rfl (by simp [go_sem, sEv, sLook, nbeq, i64_w, -List.getD_eq_getElem?_getD]) ?_
      refine rw_val (v := .pointer (some ⟨u, 3, none⟩)) (w' := w62) rfl rfl rfl rfl (by simp [go_sem, sEv, sLook, nbeq, i64_w, -List.getD_eq_getElem?_getD, Try.underlying51]) ?_
      have hb69 := hk64
      refine rw_store (g := u) (i := 3) (l := [.bool false]) (cs' := #[.string (strOfNums (r.S ++ (r.R.take ((r.R.length : Nat) : Int).toNat))), .string (⟨#[]⟩ : ByteArray), .int .i64 r.st, .bool false, .bool r.b, .int .i64 r.l, .int .i64 r.u, .bool r.d]) rfl rfl rfl hb69 rfl (by have e0_ := hb69.cellv (i := 3) (v := (.bool r.a : Value)) rfl; have f0_ := hb69.frozen 3; simp [go_sem, sEv, sLook, nbeq, i64_w, -List.getD_eq_getElem?_getD, putCells, e0_, f0_]) ?_
      intro w66 hk67 hk68
      have hs_w66 := hk67.size
      refine rw_end ?_
      refine w_weaken (G' := [(0, .pointer (some ⟨u, 0, none⟩))]) ⟨rfl, trivial⟩ ?_
      refine w_seq ?_
      refine w_region ?_
      refine rw_val (v := .pointer (some ⟨u, 0, none⟩)) (w' := w66) rfl rfl rfl rfl rfl ?_
      refine rw_val (v := .pointer (some ⟨u, 0, none⟩)) (w' := w66) rfl rfl rfl rfl (by simp [go_sem, sEv, sLook, nbeq, i64_w, -List.getD_eq_getElem?_getD]) ?_
      refine rw_val (v := .pointer (some ⟨u, 4, none⟩)) (w' := w66) rfl rfl rfl rfl (by simp [go_sem, sEv, sLook, nbeq, i64_w, -List.getD_eq_getElem?_getD, Try.underlying51]) ?_
      have hb73 := hk68
      refine rw_store (g := u) (i := 4) (l := [.bool false]) (cs' := #[.string (strOfNums (r.S ++ (r.R.take ((r.R.length : Nat) : Int).toNat))), .string (⟨#[]⟩ : ByteArray), .int .i64 r.st, .bool false, .bool false, .int .i64 r.l, .int .i64 r.u, .bool r.d]) rfl rfl rfl hb73 rfl (by have e0_ := hb73.cellv (i := 4) (v := (.bool r.b : Value)) rfl; have f0_ := hb73.frozen 4; simp [go_sem, sEv, sLook, nbeq, i64_w, -List.getD_eq_getElem?_getD, putCells, e0_, f0_]) ?_
      intro w70 hk71 hk72
      have hs_w70 := hk71.size
      refine rw_end ?_
      refine w_weaken (G' := [(0, .pointer (some ⟨u, 0, none⟩))]) ⟨rfl, trivial⟩ ?_
      refine w_region ?_
      refine rw_val (v := .pointer (some ⟨u, 0, none⟩)) (w' := w70) rfl rfl rfl rfl rfl ?_
      refine rw_val (v := .pointer (some ⟨u, 0, none⟩)) (w' := w70) rfl rfl rfl rfl (by simp [go_sem, sEv, sLook, nbeq, i64_w, -List.getD_eq_getElem?_getD]) ?_
      refine rw_val (v := .pointer (some ⟨u, 7, none⟩)) (w' := w70) rfl rfl rfl rfl (by simp [go_sem, sEv, sLook, nbeq, i64_w, -List.getD_eq_getElem?_getD, Try.underlying51]) ?_
      have hb77 := hk72
      refine rw_store (g := u) (i := 7) (l := [.bool false]) (cs' := #[.string (strOfNums (r.S ++ (r.R.take ((r.R.length : Nat) : Int).toNat))), .string (⟨#[]⟩ : ByteArray), .int .i64 r.st, .bool false, .bool false, .int .i64 r.l, .int .i64 r.u, .bool false]) rfl rfl rfl hb77 rfl (by have e0_ := hb77.cellv (i := 7) (v := (.bool r.d : Value)) rfl; have f0_ := hb77.frozen 7; simp [go_sem, sEv, sLook, nbeq, i64_w, -List.getD_eq_getElem?_getD, putCells, e0_, f0_]) ?_
      intro w74 hk75 hk76
      have hs_w74 := hk75.size
      refine rw_end ?_
      refine w_weaken (G' := []) trivial ?_
      refine w_end (post_end0 rfl ?_)
      have e2_ : r.crash k = (⟨(r.S ++ (r.R.take ((r.R.length : Nat) : Int).toNat)), [], r.st, false, false, r.l, r.u, false⟩ : RS) := by have e3_ : r.left k = ((r.R.length : Nat) : Int).toNat := (by unfold RS.left; omega); rw [RS.crash, e3_]
      rw [e2_]
      exact ⟨rfl, ((((((Grow.ofB hb56).trans (Grow.ofK hk59)).trans (Grow.ofK hk63)).trans (Grow.ofK hk67)).trans (Grow.ofK hk71)).trans (Grow.ofK hk75)), hk76⟩
    · have l78 : ¬ (((r.R.length : Nat) : Int) < k) := of_decide_eq_false c53
      refine w_skip ?_
      refine w_seq ?_
      refine w_drawk (M := [0, 0, 2, 6, 14, 0, 32, 96, 224, 0, 992, 2046, 4095, 8191, 16383]) (ss := [Is (.pointer (some ⟨u, 0, none⟩)), Is (.pointer (some ⟨u, 0, none⟩)), Is (.pointer (some ⟨u, 0, none⟩)), Is (.pointer (some ⟨u, 0, none⟩)), Is (.string (strOfNums r.S)), Is (.pointer (some ⟨u, 0, none⟩)), Is (.pointer (some ⟨u, 0, none⟩)), Is (.pointer (some ⟨u, 1, none⟩)), Is (.string (strOfNums r.R)), Is (.int .i64 k), Is (.string (strOfNums (r.R.take k.toNat))), Is (.string (strOfNums (r.S ++ (r.R.take k.toNat))))]) 12 rfl (by decide +kernel) ?_
      refine t_is (.pointer (some ⟨u, 0, none⟩)) rfl rfl rfl rfl (fun W_ hW_ F_ => rfl) ?_
      refine t_is (.pointer (some ⟨u, 0, none⟩)) rfl rfl rfl rfl (fun W_ hW_ F_ => rfl) ?_
      refine t_is (.pointer (some ⟨u, 0, none⟩)) rfl rfl rfl rfl (fun W_ hW_ F_ => by simp [go_sem, sEv, sLook, nbeq, i64_w, -List.getD_eq_getElem?_getD]) ?_
      refine t_is (.pointer (some ⟨u, 0, none⟩)) rfl rfl rfl rfl (fun W_ hW_ F_ => by simp [go_sem, sEv, sLook, nbeq, i64_w, -List.getD_eq_getElem?_getD, Try.underlying51]) ?_
      refine t_is (.string (strOfNums r.S)) rfl rfl rfl rfl (fun W_ hW_ F_ => by have eb_ := (hb.on (below_of_drew hW_)); have e0_ := eb_.cellv (i := 0) (v := (.string (strOfNums r.S) : Value)) rfl; simp [go_sem, sEv, sLook, nbeq, i64_w, -List.getD_eq_getElem?_getD, e0_]) ?_
      refine t_is (.pointer (some ⟨u, 0, none⟩)) rfl rfl rfl rfl (fun W_ hW_ F_ => rfl) ?_
      refine t_is (.pointer (some ⟨u, 0, none⟩)) rfl rfl rfl rfl (fun W_ hW_ F_ => by simp [go_sem, sEv, sLook, nbeq, i64_w, -List.getD_eq_getElem?_getD]) ?_
      refine t_is (.pointer (some ⟨u, 1, none⟩)) rfl rfl rfl rfl (fun W_ hW_ F_ => by simp [go_sem, sEv, sLook, nbeq, i64_w, -List.getD_eq_getElem?_getD, Try.underlying51]) ?_
      refine t_is (.string (strOfNums r.R)) rfl rfl rfl rfl (fun W_ hW_ F_ => by have eb_ := (hb.on (below_of_drew hW_)); have e0_ := eb_.cellv (i := 1) (v := (.string (strOfNums r.R) : Value)) rfl; simp [go_sem, sEv, sLook, nbeq, i64_w, -List.getD_eq_getElem?_getD, e0_]) ?_
      refine t_is (.int .i64 k) rfl rfl rfl rfl (fun W_ hW_ F_ => rfl) ?_
      refine t_is (.string (strOfNums (r.R.take k.toNat))) rfl rfl rfl rfl (fun W_ hW_ F_ => (run_as (str_to (t := 9) (by kernel_rfl) r.R k (by omega) (by omega) _))) ?_
      refine t_is (.string (strOfNums (r.S ++ (r.R.take k.toNat)))) rfl rfl rfl rfl (fun W_ hW_ F_ => (run_as (run_str_add (t := 9) r.S (r.R.take k.toNat) (by have h_ := r.next_SR; (try simp only [h_.1, h_.2, List.length_take]); omega) _))) ?_
      refine t_tail ?_
      intro w79 hb80_ F81
      have hb80 := below_of_drew hb80_
      have hs_w79 := hb80.size
      refine rw_val (v := .pointer (some ⟨u, 0, none⟩)) (w' := w79) rfl rfl rfl rfl (by simp [go_sem, sEv, sLook, nbeq, i64_w, -List.getD_eq_getElem?_getD]) ?_
      refine rw_val (v := .pointer (some ⟨u, 0, none⟩)) (w' := w79) rfl rfl rfl rfl (by simp [go_sem, sEv, sLook, nbeq, i64_w, -List.getD_eq_getElem?_getD, Try.underlying51]) ?_
      have hb85 := (hb.on hb80)
      refine rw_store (g := u) (i := 0) (l := [.string (strOfNums (r.S ++ (r.R.take k.toNat)))]) (cs' := #[.string (strOfNums (r.S ++ (r.R.take k.toNat))), .string (strOfNums r.R), .int .i64 r.st, .bool r.a, .bool r.b, .int .i64 r.l, .int .i64 r.u, .bool r.d]) rfl rfl rfl hb85 rfl (by have e0_ := hb85.cellv (i := 0) (v := (.string (strOfNums r.S) : Value)) rfl; have f0_ := hb85.frozen 0; simp [go_sem, sEv, sLook, nbeq, i64_w, -List.getD_eq_getElem?_getD, putCells, e0_, f0_]) ?_
      intro w82 hk83 hk84
      have hs_w82 := hk83.size
      refine rw_end ?_
      refine w_weaken (G' := [(0, .pointer (some ⟨u, 0, none⟩))]) ⟨rfl, trivial⟩ ?_
      refine w_seq ?_
      refine w_region ?_
      refine rw_val (v := .pointer (some ⟨u, 0, none⟩)) (w' := w82) rfl rfl rfl rfl rfl ?_
      refine rw_val (v := .pointer (some ⟨u, 0, none⟩)) (w' := w82) rfl rfl rfl rfl (by simp [go_sem, sEv, sLook, nbeq, i64_w, -List.getD_eq_getElem?_getD]) ?_
      refine rw_val (v := .pointer (some ⟨u, 1, none⟩)) (w' := w82) rfl rfl rfl rfl (by simp [go_sem, sEv, sLook, nbeq, i64_w, -List.getD_eq_getElem?_getD, Try.underlying51]) ?_
      have hb89 := hk84
      refine rw_store (g := u) (i := 1) (l := [.string (⟨#[]⟩ : ByteArray)]) (cs' := #[.string (strOfNums (r.S ++ (r.R.take k.toNat))), .string (⟨#[]⟩ : ByteArray), .int .i64 r.st, .bool r.a, .bool r.b, .int .i64 r.l, .int .i64 r.u, .bool r.d]) rfl rfl rfl hb89 rfl (by have e0_ := hb89.cellv (i := 1) (v := (.string (strOfNums r.R) : Value)) rfl; have f0_ := hb89.frozen 1; simp [go_sem, sEv, sLook, nbeq, i64_w, -List.getD_eq_getElem?_getD, putCells, e0_, f0_]) ?_
      intro w86 hk87 hk88
      have hs_w86 := hk87.size
      refine rw_end ?_
      refine w_weaken (G' := [(0, .pointer (some ⟨u, 0, none⟩))]) ⟨rfl, trivial⟩ ?_
      refine w_seq ?_
      refine w_region ?_
      refine rw_val (v := .pointer (some ⟨u, 0, none⟩)) (w' := w86) rfl rfl rfl rfl rfl ?_
      refine rw_val (v := .pointer (some ⟨u, 0, none⟩)) (w' := w86) rfl rfl rfl rfl (by simp [go_sem, sEv, sLook, nbeq, i64_w, -List.getD_eq_getElem?_getD]) ?_
      refine rw_val (v := .pointer (some ⟨u, 3, none⟩)) (w' := w86) rfl rfl rfl rfl (by simp [go_sem, sEv, sLook, nbeq, i64_w, -List.getD_eq_getElem?_getD, Try.underlying51]) ?_
      have hb93 := hk88
      refine rw_store (g := u) (i := 3) (l := [.bool false]) (cs' := #[.string (strOfNums (r.S ++ (r.R.take k.toNat))), .string (⟨#[]⟩ : ByteArray), .int .i64 r.st, .bool false, .bool r.b, .int .i64 r.l, .int .i64 r.u, .bool r.d]) rfl rfl rfl hb93 rfl (by have e0_ := hb93.cellv (i := 3) (v := (.bool r.a : Value)) rfl; have f0_ := hb93.frozen 3; simp [go_sem, sEv, sLook, nbeq, i64_w, -List.getD_eq_getElem?_getD, putCells, e0_, f0_]) ?_
      intro w90 hk91 hk92
      have hs_w90 := hk91.size
      refine rw_end ?_
      refine w_weaken (G' := [(0, .pointer (some ⟨u, 0, none⟩))]) ⟨rfl, trivial⟩ ?_
      refine w_seq ?_
      refine w_region ?_
      refine rw_val (v := .pointer (some ⟨u, 0, none⟩)) (w' := w90) rfl rfl rfl rfl rfl ?_
      refine rw_val (v := .pointer (some ⟨u, 0, none⟩)) (w' := w90) rfl rfl rfl rfl (by simp [go_sem, sEv, sLook, nbeq, i64_w, -List.getD_eq_getElem?_getD]) ?_
      refine rw_val (v := .pointer (some ⟨u, 4, none⟩)) (w' := w90) rfl rfl rfl rfl (by simp [go_sem, sEv, sLook, nbeq, i64_w, -List.getD_eq_getElem?_getD, Try.underlying51]) ?_
      have hb97 := hk92
      refine rw_store (g := u) (i := 4) (l := [.bool false]) (cs' := #[.string (strOfNums (r.S ++ (r.R.take k.toNat))), .string (⟨#[]⟩ : ByteArray), .int .i64 r.st, .bool false, .bool false, .int .i64 r.l, .int .i64 r.u, .bool r.d]) rfl rfl rfl hb97 rfl (by have e0_ := hb97.cellv (i := 4) (v := (.bool r.b : Value)) rfl; have f0_ := hb97.frozen 4; simp [go_sem, sEv, sLook, nbeq, i64_w, -List.getD_eq_getElem?_getD, putCells, e0_, f0_]) ?_
      intro w94 hk95 hk96
      have hs_w94 := hk95.size
      refine rw_end ?_
      refine w_weaken (G' := [(0, .pointer (some ⟨u, 0, none⟩))]) ⟨rfl, trivial⟩ ?_
      refine w_region ?_
      refine rw_val (v := .pointer (some ⟨u, 0, none⟩)) (w' := w94) rfl rfl rfl rfl rfl ?_
      refine rw_val (v := .pointer (some ⟨u, 0, none⟩)) (w' := w94) rfl rfl rfl rfl (by simp [go_sem, sEv, sLook, nbeq, i64_w, -List.getD_eq_getElem?_getD]) ?_
      refine rw_val (v := .pointer (some ⟨u, 7, none⟩)) (w' := w94) rfl rfl rfl rfl (by simp [go_sem, sEv, sLook, nbeq, i64_w, -List.getD_eq_getElem?_getD, Try.underlying51]) ?_
      have hb101 := hk96
      refine rw_store (g := u) (i := 7) (l := [.bool false]) (cs' := #[.string (strOfNums (r.S ++ (r.R.take k.toNat))), .string (⟨#[]⟩ : ByteArray), .int .i64 r.st, .bool false, .bool false, .int .i64 r.l, .int .i64 r.u, .bool false]) rfl rfl rfl hb101 rfl (by have e0_ := hb101.cellv (i := 7) (v := (.bool r.d : Value)) rfl; have f0_ := hb101.frozen 7; simp [go_sem, sEv, sLook, nbeq, i64_w, -List.getD_eq_getElem?_getD, putCells, e0_, f0_]) ?_
      intro w98 hk99 hk100
      have hs_w98 := hk99.size
      refine rw_end ?_
      refine w_weaken (G' := []) trivial ?_
      refine w_end (post_end0 rfl ?_)
      have e2_ : r.crash k = (⟨(r.S ++ (r.R.take k.toNat)), [], r.st, false, false, r.l, r.u, false⟩ : RS) := by have e3_ : r.left k = k.toNat := (by unfold RS.left; omega); rw [RS.crash, e3_]
      rw [e2_]
      exact ⟨rfl, ((((((Grow.ofB hb80).trans (Grow.ofK hk83)).trans (Grow.ofK hk87)).trans (Grow.ofK hk91)).trans (Grow.ofK hk95)).trans (Grow.ofK hk99)), hk100⟩
end Go.Proofs.Ytpbpeklbmmbigaa.Tp
