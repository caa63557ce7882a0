/- Parts of the proofs of noteKinds_holds, noteBack_holds, notePlaces_holds: NtSame, NtRSame, NtBack0, NtBack1, NtBack2, NtArg, NtBackL, NtPlace. -/
import Derived.Test.YtbbhdohjhipalaaQA5
section
namespace Go.Proofs.Ytbbhdohjhipalaa.Ce
open Go.RowKit Go.Proofs.YtbbhdohjhipalaaW.PrintWords Go.Proofs.YtbbhdohjhipalaaW.PrintLast Go.Proofs.YtbbhdohjhipalaaW.PrintMore
open Go.Proofs.Ytbbhdohjhipalaa.Flow
set_option linter.unusedVariables false
set_option linter.unusedSimpArgs false
theorem eqA55 (d : Nat) (w : World) (x0 y0 : Int) (x1 y1 : Int) :
    (Op.equalIn (d + 2) 55 (.agg #[.int .i64 x0, .int .i64 x1]) (.agg #[.int .i64 y0, .int .i64 y1])).run Try.prog w = .ok (x0 == y0 && (x1 == y1)) w := by
  refine eqA_of Try.underlying55 (by kernel_rfl) ?_
  refine eqf_cons (by rfl) (by go_simp; rfl) (by go_simp; rfl) (by go_simp) ?_
  exact eqf_last (by rfl) (by go_simp; rfl) (by go_simp; rfl) (by go_simp)
theorem eqA73 (d : Nat) (w : World) (x0 y0 : Int) (x1 y1 : Int) (x2 y2 : Int) (x3 y3 : Int) (x4 y4 : Int) :
    (Op.equalIn (d + 2) 73 (.agg #[.int .i64 x0, .int .i64 x1, .int .i64 x2, .int .i64 x3, .int .i64 x4]) (.agg #[.int .i64 y0, .int .i64 y1, .int .i64 y2, .int .i64 y3, .int .i64 y4])).run Try.prog w = .ok (x0 == y0 && (x1 == y1 && (x2 == y2 && (x3 == y3 && (x4 == y4))))) w := by
  refine eqA_of Try.underlying73 (by kernel_rfl) ?_
  refine eqf_cons (by rfl) (by go_simp; rfl) (by go_simp; rfl) (by go_simp) ?_
  refine eqf_cons (by rfl) (by go_simp; rfl) (by go_simp; rfl) (by go_simp) ?_
  refine eqf_cons (by rfl) (by go_simp; rfl) (by go_simp; rfl) (by go_simp) ?_
  refine eqf_cons (by rfl) (by go_simp; rfl) (by go_simp; rfl) (by go_simp) ?_
  exact eqf_last (by rfl) (by go_simp; rfl) (by go_simp; rfl) (by go_simp)
def eqE (a b : EL) : Bool := (a.win == b.win && a.key == b.key) && eqC a.c b.c
theorem eqE_iff (a b : EL) : eqE a b = true ↔ a = b := by
  unfold eqE
  rw [Bool.and_eq_true, Bool.and_eq_true, beq_iff_eq, beq_iff_eq, eqC_iff]
  constructor
  · rintro ⟨⟨h1, h2⟩, h3⟩
    cases a
    cases b
    simp_all
  · rintro rfl
    exact ⟨⟨rfl, rfl⟩, rfl⟩
theorem eqE_self (a : EL) : eqE a a = true := (eqE_iff a a).2 rfl
theorem ext_place (x : EL) : (earr x).extract 0 (0 + 2) = #[.int .i64 x.win, .int .i64 x.key] := by
  have h : (earr x).extract 0 (0 + 2) = ((encE x).extract 0 (0 + 2)).toArray := by simp [earr]
  rw [h]
  rfl
theorem ext_ecell (x : EL) : (earr x).extract 2 (2 + 74) = carr x.c := by
  have h : (earr x).extract 2 (2 + 74) = ((encE x).extract 2 (2 + 74)).toArray := by simp [earr]
  have h2 : (encE x).extract 2 (2 + 74) = encC x.c := by
    show ((encC x.c).take 74) = encC x.c
    exact List.take_of_length_le (by rw [encC_len]; omega)
  rw [h, h2]
  rfl
set_option maxRecDepth 100000 in
theorem eqE_run (d : Nat) (w : World) (a b : EL) : (Op.equalIn (d + 5) 83 (.agg (earr a)) (.agg (earr b))).run Try.prog w = .ok (eqE a b) w := by
  have iP : (isAgg 55).run Try.prog w = .ok true w := by kernel_rfl
  have sP : (sizeOf 55).run Try.prog w = .ok 2 w := by kernel_rfl
  have iC : (isAgg 81).run Try.prog w = .ok true w := by kernel_rfl
  have sC : (sizeOf 81).run Try.prog w = .ok 74 w := by kernel_rfl
  refine eqA_of Try.underlying83 (by kernel_rfl) ?_
  refine eqf_cons (by rfl) (part_agg iP sP (ext_place a)) (part_agg iP sP (ext_place b)) (eqA55 (d + 2) w _ _ _ _) ?_
  exact eqf_last (by rfl) (part_agg iC sC (ext_ecell a)) (part_agg iC sC (ext_ecell b)) (eqC_run d w a.c b.c)
set_option maxRecDepth 100000 in
theorem run_ne_entry (a b : EL) (w : World) : (binOp .neq 83 (.agg (earr a)) (.agg (earr b))).run Try.prog w = .ok (.bool (!eqE a b)) w := by
  have h : (Op.equalIn Op.maxDepth 83 (.agg (earr a)) (.agg (earr b))).run Try.prog w = .ok (eqE a b) w := eqE_run 9995 w a b
  simp [binOp, Op.equal, h]
theorem guard_ne_entry (x y : Operand) (a b : EL) (w : World) : (do eqGuard .neq 83 x y (.agg (earr a)) (.agg (earr b)); binOp .neq 83 (.agg (earr a)) (.agg (earr b)) : Sem Value).run Try.prog w = .ok (.bool (!eqE a b)) w := by
  have h : Try.prog.eqGuardType Try.prog.depth 83 = false := by kernel_rfl
  have h2 := run_ne_entry a b w
  simp [eqGuard, h, h2]
theorem take_eq_step {α : Type} {xs ys : List α} {z : α} {j : Nat} (h1 : j < xs.length) (h2 : j < ys.length) (h : xs.take j = ys.take j) (e : xs.getD j z = ys.getD j z) : xs.take (j + 1) = ys.take (j + 1) := by
  rw [List.take_succ_eq_append_getElem h1, List.take_succ_eq_append_getElem h2, h]
  rw [List.getD_eq_getElem?_getD, List.getD_eq_getElem?_getD, List.getElem?_eq_getElem h1, List.getElem?_eq_getElem h2] at e
  simp only [Option.getD_some] at e
  rw [e]
theorem take_eq_all {α : Type} {xs ys : List α} {j : Nat} (h1 : xs.length ≤ j) (h2 : ys.length ≤ j) (h : xs.take j = ys.take j) : xs = ys := by
  rwa [List.take_of_length_le h1, List.take_of_length_le h2] at h
theorem getD_ne {α : Type} {xs ys : List α} {z : α} {j : Nat} (h : xs.getD j z ≠ ys.getD j z) : ¬ xs = ys := fun e => h (by rw [e])
theorem len_ne {α : Type} {xs ys : List α} (h : ¬ xs.length = ys.length) : ¬ xs = ys := fun e => h (by rw [e])
theorem no_iff {P : Prop} (h : ¬ P) : (false = true ↔ P) := ⟨fun e => absurd e (by decide), fun e => absurd e h⟩
theorem yes_iff {P : Prop} (h : P) : (true = true ↔ P) := ⟨fun _ => h, fun _ => rfl⟩
set_option maxHeartbeats 4000000 in
theorem equal_int (w : World) (A1 : Option Addr) (c1 : Nat) (A2 : Option Addr) (c2 : Nat) (xs ys : List Int) (h1 : (Kd.int .i64).C w A1 xs.length xs) (hc1 : xs.length ≤ c1) (h2 : (Kd.int .i64).C w A2 ys.length ys) (hc2 : ys.length ≤ c2) (hl1 : xs.length ≤ 140737488355328) (hl2 : ys.length ≤ 140737488355328) :
    Calls Try.prog 43 #[.slice A1 xs.length c1, .slice A2 ys.length c2] w fun e w' => ∃ bb, e = .returned (.bool bb) ∧ (bb = true ↔ xs = ys) ∧ Below w.heap.size w w' := by
  refine calls_flow Try.func43 rfl 26 rfl (Nat.le_of_ble_eq_true rfl) [(0, .slice A1 xs.length c1), (1, .slice A2 ys.length c2)] ?_ ?_
  · intro t v h; exact args_look rfl t v h
  refine w_seq ?_
  refine w_region ?_
  refine rw_val (v := .bool false) (w' := w) rfl rfl rfl rfl rfl ?_
  refine rw_end ?_
  refine w_seq ?_
  refine w_seq ?_
  refine w_region ?_
  refine rw_val (v := .slice A1 xs.length c1) (w' := w) rfl rfl rfl rfl rfl ?_
  refine rw_val (v := .int .i64 ((xs.length : Nat) : Int)) (w' := w) rfl rfl rfl rfl (by simp [go_sem, sEv, sLook, nbeq, i64_w, -List.getD_eq_getElem?_getD]) ?_
  refine rw_val (v := .slice A2 ys.length c2) (w' := w) rfl rfl rfl rfl rfl ?_
  refine rw_val (v := .int .i64 ((ys.length : Nat) : Int)) (w' := w) rfl rfl rfl rfl (by simp [go_sem, sEv, sLook, nbeq, i64_w, -List.getD_eq_getElem?_getD]) ?_
  refine rw_val (v := .bool (((xs.length : Nat) : Int) != ((ys.length : Nat) : Int))) (w' := w) rfl rfl rfl rfl (by simp [go_sem, sEv, sLook, nbeq, i64_w, -List.getD_eq_getElem?_getD]) ?_
  refine rw_end ?_
  refine w_weaken (G' := [(0, .slice A1 xs.length c1), (1, .slice A2 ys.length c2), (4, .bool false), (10, .bool (((xs.length : Nat) : Int) != ((ys.length : Nat) : Int)))]) ⟨rfl, rfl, rfl, rfl, trivial⟩ ?_
  refine w_cond rfl rfl (fun cL => ?_) (fun cL => ?_)
  · have l1 : ¬ ((xs.length : Nat) : Int) = ((ys.length : Nat) : Int) := by simpa using cL
    refine w_seq ?_
    refine w_region ?_
    refine rw_val (v := .bool false) (w' := w) rfl rfl rfl rfl rfl ?_
    refine rw_end ?_
    refine w_ret (post_ret1 rfl rfl ?_)
    exact ⟨_, rfl, no_iff (len_ne (by omega)), (Below.refl _ _)⟩
  · have l2 : ((xs.length : Nat) : Int) = ((ys.length : Nat) : Int) := by simpa using cL
    refine w_skip ?_
    refine w_seq ?_
    refine w_seq ?_
    refine w_region ?_
    refine rw_val (v := .slice A1 xs.length c1) (w' := w) rfl rfl rfl rfl rfl ?_
    refine rw_val (v := .int .i64 ((xs.length : Nat) : Int)) (w' := w) rfl rfl rfl rfl (by simp [go_sem, sEv, sLook, nbeq, i64_w, -List.getD_eq_getElem?_getD]) ?_
    refine rw_val (v := .int .i64 0) (w' := w) rfl rfl rfl rfl rfl ?_
    refine rw_end ?_
    refine w_block ?_
    refine w_loop (fun m_ G W_ => ∃ (j : Nat), j + m_ = xs.length ∧ ys.length = xs.length ∧ Below w.heap.size w W_ ∧ (xs.take j = ys.take j) ∧ G = [(0, .slice A1 xs.length c1), (1, .slice A2 ys.length c2), (12, .int .i64 ((xs.length : Nat) : Int)), (13, .int .i64 ((j : Nat) : Int))]) xs.length [(0, .slice A1 xs.length c1), (1, .slice A2 ys.length c2), (12, .int .i64 ((xs.length : Nat) : Int)), (13, .int .i64 0)] ⟨0, by omega, by omega, (Below.refl _ _), (by simp), rfl⟩ ⟨rfl, rfl, rfl, rfl, trivial⟩ ?_
    rintro m_ G w_L3 ⟨j, hp4, hp5, hB_L3, hf6, rfl⟩
    have hs_w_L3 := hB_L3.size
    refine w_seq ?_
    refine w_region ?_
    refine rw_val (v := .bool (decide (((j : Nat) : Int) < ((xs.length : Nat) : Int)))) (w' := w_L3) rfl rfl rfl rfl (by simp [go_sem, sEv, sLook, nbeq, i64_w, -List.getD_eq_getElem?_getD]) ?_
    refine rw_end ?_
    refine w_seq ?_
    refine w_cond rfl rfl (fun cJ => ?_) (fun cJ => ?_)
    · have l7 : (((j : Nat) : Int) < ((xs.length : Nat) : Int)) := of_decide_eq_true cJ
      refine w_skip ?_
      refine w_seq ?_
      refine w_block ?_
      refine w_seq ?_
      refine w_region ?_
      refine rw_val (v := .int .i64 ((j : Nat) : Int)) (w' := w_L3) rfl rfl rfl rfl rfl ?_
      refine rw_val (v := .int .i64 ((j : Nat) : Int)) (w' := w_L3) rfl rfl rfl rfl rfl ?_
      refine rw_end ?_
      refine w_seq ?_
      obtain ⟨ad8, hA9, hc10⟩ := int_at (Kd.C_below h1 hB_L3) 0 j (by first | omega | decide)
      subst hA9
      have he11 : w_L3.cell? (ad8.add (j)) = some (.int .i64 (xs.getD j 0)) := cell_0 (hc10 0 _ rfl)
      obtain ⟨ad12, hA13, hc14⟩ := int_at (Kd.C_below h2 hB_L3) 0 j (by first | omega | decide)
      subst hA13
      have he15 : w_L3.cell? (ad12.add (j)) = some (.int .i64 (ys.getD j 0)) := cell_0 (hc14 0 _ rfl)
      refine w_drawk (M := [0, 0, 3, 7, 0, 0, 48, 112, 255]) (ss := [Is (.slice (some ad8) xs.length c1), Is (.int .i64 ((j : Nat) : Int)), Is (.pointer (some (ad8.add (j)))), Is (.int .i64 (xs.getD j 0)), Is (.slice (some ad12) ys.length c2), Is (.int .i64 ((j : Nat) : Int)), Is (.pointer (some (ad12.add (j)))), Is (.int .i64 (ys.getD j 0))]) 8 rfl (by decide +kernel) ?_
      refine t_is (.slice (some ad8) xs.length c1) rfl rfl rfl rfl (fun W_ hW_ F_ => rfl) ?_
      refine t_is (.int .i64 ((j : Nat) : Int)) rfl rfl rfl rfl (fun W_ hW_ F_ => rfl) ?_
      refine t_is (.pointer (some (ad8.add (j)))) rfl rfl rfl rfl (fun W_ hW_ F_ => (run_as (run_at_1 (P := Try.prog) (e := 3) (by kernel_rfl) (by kernel_rfl) j (by first | omega | decide) _))) ?_
      refine t_is (.int .i64 (xs.getD j 0)) rfl rfl rfl rfl (fun W_ hW_ F_ => by have e0_ := cellOn he11 (below_of_drew hW_); simp [go_sem, sEv, sLook, nbeq, i64_w, -List.getD_eq_getElem?_getD, e0_]) ?_
      refine t_is (.slice (some ad12) ys.length c2) rfl rfl rfl rfl (fun W_ hW_ F_ => rfl) ?_
      refine t_is (.int .i64 ((j : Nat) : Int)) rfl rfl rfl rfl (fun W_ hW_ F_ => rfl) ?_
      refine t_is (.pointer (some (ad12.add (j)))) rfl rfl rfl rfl (fun W_ hW_ F_ => (run_as (run_at_1 (P := Try.prog) (e := 3) (by kernel_rfl) (by kernel_rfl) j (by first | omega | decide) _))) ?_
      refine t_is (.int .i64 (ys.getD j 0)) rfl rfl rfl rfl (fun W_ hW_ F_ => by have e0_ := cellOn he15 (below_of_drew hW_); simp [go_sem, sEv, sLook, nbeq, i64_w, -List.getD_eq_getElem?_getD, e0_]) ?_
      refine t_tail ?_
      intro w16 hb17_ F18
      have hb17 := below_of_drew hb17_
      have hs_w16 := hb17.size
      clear F18
      refine rw_val (v := .bool ((xs.getD j 0) != (ys.getD j 0))) (w' := w16) rfl rfl rfl rfl (by simp [go_sem, sEv, sLook, nbeq, i64_w, -List.getD_eq_getElem?_getD]) ?_
      refine rw_end ?_
      refine w_weaken (G' := [(0, .slice (some ad8) xs.length c1), (1, .slice (some ad12) ys.length c2), (12, .int .i64 ((xs.length : Nat) : Int)), (13, .int .i64 ((j : Nat) : Int)), (24, .bool ((xs.getD j 0) != (ys.getD j 0)))]) ⟨rfl, rfl, rfl, rfl, rfl, trivial⟩ ?_
      refine w_cond rfl rfl (fun cD => ?_) (fun cD => ?_)
      · have l19 : ¬ (xs.getD j 0) = (ys.getD j 0) := by simpa using cD
        refine w_seq ?_
        refine w_region ?_
        refine rw_val (v := .bool false) (w' := w16) rfl rfl rfl rfl rfl ?_
        refine rw_end ?_
        refine w_ret (post_ret1 rfl rfl ?_)
        exact ⟨_, rfl, no_iff (getD_ne (z := 0) (j := j) (by simpa using cD)), (chain hB_L3 hb17)⟩
      · have l20 : (xs.getD j 0) = (ys.getD j 0) := by simpa using cD
        refine w_skip ?_
        refine w_blk ?_
        refine w_region ?_
        refine rw_val (v := .int .i64 ((j + 1 : Nat) : Int)) (w' := w16) rfl rfl rfl rfl (by simp [go_sem, sEv, sLook, nbeq, i64_w, -List.getD_eq_getElem?_getD]; exact wrap_id (by omega) (by omega)) ?_
        refine rw_val (v := .int .i64 ((j + 1 : Nat) : Int)) (w' := w16) rfl rfl rfl rfl rfl ?_
        refine rw_end ?_
        exact w_back (m_ - 1) [(0, .slice (some ad8) xs.length c1), (1, .slice (some ad12) ys.length c2), (12, .int .i64 ((xs.length : Nat) : Int)), (13, .int .i64 ((j + 1 : Nat) : Int))] (by omega) ⟨rfl, rfl, rfl, rfl, trivial⟩ ⟨(j + 1), by omega, by omega, (chain hB_L3 hb17), (take_eq_step (z := 0) (by omega) (by omega) hf6 (by simpa using cD)), rfl⟩
    · have l21 : ¬ (((j : Nat) : Int) < ((xs.length : Nat) : Int)) := of_decide_eq_false cJ
      refine w_exit rfl ?_
      refine w_seq ?_
      refine w_region ?_
      refine rw_val (v := .bool true) (w' := w_L3) rfl rfl rfl rfl rfl ?_
      refine rw_end ?_
      refine w_ret (post_ret1 rfl rfl ?_)
      exact ⟨_, rfl, yes_iff (take_eq_all (by omega) (by omega) hf6), hB_L3⟩
set_option maxHeartbeats 4000000 in
theorem equal_op (w : World) (A1 : Option Addr) (c1 : Nat) (A2 : Option Addr) (c2 : Nat) (xs ys : List OpL) (h1 : kOp.C w A1 xs.length xs) (hc1 : xs.length ≤ c1) (h2 : kOp.C w A2 ys.length ys) (hc2 : ys.length ≤ c2) (hl1 : xs.length ≤ 140737488355328) (hl2 : ys.length ≤ 140737488355328) :
    Calls Try.prog 44 #[.slice A1 xs.length c1, .slice A2 ys.length c2] w fun e w' => ∃ bb, e = .returned (.bool bb) ∧ (bb = true ↔ xs = ys) ∧ Below w.heap.size w w' := by
  refine calls_flow Try.func44 rfl 26 rfl (Nat.le_of_ble_eq_true rfl) [(0, .slice A1 xs.length c1), (1, .slice A2 ys.length c2)] ?_ ?_
  · intro t v h; exact args_look rfl t v h
  refine w_seq ?_
  refine w_region ?_
  refine rw_val (v := .bool false) (w' := w) rfl rfl rfl rfl rfl ?_
  refine rw_end ?_
  refine w_seq ?_
  refine w_seq ?_
  refine w_region ?_
  refine rw_val (v := .slice A1 xs.length c1) (w' := w) rfl rfl rfl rfl rfl ?_
  refine rw_val (v := .int .i64 ((xs.length : Nat) : Int)) (w' := w) rfl rfl rfl rfl (by simp [go_sem, sEv, sLook, nbeq, i64_w, -List.getD_eq_getElem?_getD]) ?_
  refine rw_val (v := .slice A2 ys.length c2) (w' := w) rfl rfl rfl rfl rfl ?_
  refine rw_val (v := .int .i64 ((ys.length : Nat) : Int)) (w' := w) rfl rfl rfl rfl (by simp [go_sem, sEv, sLook, nbeq, i64_w, -List.getD_eq_getElem?_getD]) ?_
  refine rw_val (v := .bool (((xs.length : Nat) : Int) != ((ys.length : Nat) : Int))) (w' := w) rfl rfl rfl rfl (by simp [go_sem, sEv, sLook, nbeq, i64_w, -List.getD_eq_getElem?_getD]) ?_
  refine rw_end ?_
  refine w_weaken (G' := [(0, .slice A1 xs.length c1), (1, .slice A2 ys.length c2), (4, .bool false), (10, .bool (((xs.length : Nat) : Int) != ((ys.length : Nat) : Int)))]) ⟨rfl, rfl, rfl, rfl, trivial⟩ ?_
  refine w_cond rfl rfl (fun cL => ?_) (fun cL => ?_)
  · have l1 : ¬ ((xs.length : Nat) : Int) = ((ys.length : Nat) : Int) := by simpa using cL
    refine w_seq ?_
    refine w_region ?_
    refine rw_val (v := .bool false) (w' := w) rfl rfl rfl rfl rfl ?_
    refine rw_end ?_
    refine w_ret (post_ret1 rfl rfl ?_)
    exact ⟨_, rfl, no_iff (len_ne (by omega)), (Below.refl _ _)⟩
  · have l2 : ((xs.length : Nat) : Int) = ((ys.length : Nat) : Int) := by simpa using cL
    refine w_skip ?_
    refine w_seq ?_
    refine w_seq ?_
    refine w_region ?_
    refine rw_val (v := .slice A1 xs.length c1) (w' := w) rfl rfl rfl rfl rfl ?_
    refine rw_val (v := .int .i64 ((xs.length : Nat) : Int)) (w' := w) rfl rfl rfl rfl (by simp [go_sem, sEv, sLook, nbeq, i64_w, -List.getD_eq_getElem?_getD]) ?_
    refine rw_val (v := .int .i64 0) (w' := w) rfl rfl rfl rfl rfl ?_
    refine rw_end ?_
    refine w_block ?_
    refine w_loop (fun m_ G W_ => ∃ (j : Nat), j + m_ = xs.length ∧ ys.length = xs.length ∧ Below w.heap.size w W_ ∧ (xs.take j = ys.take j) ∧ G = [(0, .slice A1 xs.length c1), (1, .slice A2 ys.length c2), (12, .int .i64 ((xs.length : Nat) : Int)), (13, .int .i64 ((j : Nat) : Int))]) xs.length [(0, .slice A1 xs.length c1), (1, .slice A2 ys.length c2), (12, .int .i64 ((xs.length : Nat) : Int)), (13, .int .i64 0)] ⟨0, by omega, by omega, (Below.refl _ _), (by simp), rfl⟩ ⟨rfl, rfl, rfl, rfl, trivial⟩ ?_
    rintro m_ G w_L3 ⟨j, hp4, hp5, hB_L3, hf6, rfl⟩
    have hs_w_L3 := hB_L3.size
    refine w_seq ?_
    refine w_region ?_
    refine rw_val (v := .bool (decide (((j : Nat) : Int) < ((xs.length : Nat) : Int)))) (w' := w_L3) rfl rfl rfl rfl (by simp [go_sem, sEv, sLook, nbeq, i64_w, -List.getD_eq_getElem?_getD]) ?_
    refine rw_end ?_
    refine w_seq ?_
    refine w_cond rfl rfl (fun cJ => ?_) (fun cJ => ?_)
    · have l7 : (((j : Nat) : Int) < ((xs.length : Nat) : Int)) := of_decide_eq_true cJ
      refine w_skip ?_
      refine w_seq ?_
      refine w_block ?_
      refine w_seq ?_
      refine w_region ?_
      refine rw_val (v := .int .i64 ((j : Nat) : Int)) (w' := w_L3) rfl rfl rfl rfl rfl ?_
      refine rw_val (v := .int .i64 ((j : Nat) : Int)) (w' := w_L3) rfl rfl rfl rfl rfl ?_
      refine rw_end ?_
      refine w_seq ?_
      obtain ⟨ad8, hA9, hc10⟩ := flat_at (Kd.C_below h1 hB_L3) (0, 0, 0, 0, 0) j (by first | omega | decide)
      subst hA9
      have he11 : w_L3.cell? (ad8.add (j * 5)) = some (.int .i64 ((xs.getD j (0, 0, 0, 0, 0)).1)) := cell_0 (hc10 0 _ rfl)
      have he12 : w_L3.cell? ⟨(ad8.add (j * 5)).block, (ad8.add (j * 5)).off + 1, none⟩ = some (.int .i64 ((xs.getD j (0, 0, 0, 0, 0)).2.1)) := cell_j (hc10 1 _ rfl)
      have he13 : w_L3.cell? ⟨(ad8.add (j * 5)).block, (ad8.add (j * 5)).off + 2, none⟩ = some (.int .i64 ((xs.getD j (0, 0, 0, 0, 0)).2.2.1)) := cell_j (hc10 2 _ rfl)
      have he14 : w_L3.cell? ⟨(ad8.add (j * 5)).block, (ad8.add (j * 5)).off + 3, none⟩ = some (.int .i64 ((xs.getD j (0, 0, 0, 0, 0)).2.2.2.1)) := cell_j (hc10 3 _ rfl)
      have he15 : w_L3.cell? ⟨(ad8.add (j * 5)).block, (ad8.add (j * 5)).off + 4, none⟩ = some (.int .i64 ((xs.getD j (0, 0, 0, 0, 0)).2.2.2.2)) := cell_j (hc10 4 _ rfl)
      obtain ⟨ad16, hA17, hc18⟩ := flat_at (Kd.C_below h2 hB_L3) (0, 0, 0, 0, 0) j (by first | omega | decide)
      subst hA17
      have he19 : w_L3.cell? (ad16.add (j * 5)) = some (.int .i64 ((ys.getD j (0, 0, 0, 0, 0)).1)) := cell_0 (hc18 0 _ rfl)
      have he20 : w_L3.cell? ⟨(ad16.add (j * 5)).block, (ad16.add (j * 5)).off + 1, none⟩ = some (.int .i64 ((ys.getD j (0, 0, 0, 0, 0)).2.1)) := cell_j (hc18 1 _ rfl)
      have he21 : w_L3.cell? ⟨(ad16.add (j * 5)).block, (ad16.add (j * 5)).off + 2, none⟩ = some (.int .i64 ((ys.getD j (0, 0, 0, 0, 0)).2.2.1)) := cell_j (hc18 2 _ rfl)
      have he22 : w_L3.cell? ⟨(ad16.add (j * 5)).block, (ad16.add (j * 5)).off + 3, none⟩ = some (.int .i64 ((ys.getD j (0, 0, 0, 0, 0)).2.2.2.1)) := cell_j (hc18 3 _ rfl)
      have he23 : w_L3.cell? ⟨(ad16.add (j * 5)).block, (ad16.add (j * 5)).off + 4, none⟩ = some (.int .i64 ((ys.getD j (0, 0, 0, 0, 0)).2.2.2.2)) := cell_j (hc18 4 _ rfl)
      refine w_drawk (M := [0, 0, 3, 7, 0, 0, 48, 112, 255]) (ss := [Is (.slice (some ad8) xs.length c1), Is (.int .i64 ((j : Nat) : Int)), Is (.pointer (some (ad8.add (j * 5)))), Is (.agg #[.int .i64 ((xs.getD j (0, 0, 0, 0, 0)).1), .int .i64 ((xs.getD j (0, 0, 0, 0, 0)).2.1), .int .i64 ((xs.getD j (0, 0, 0, 0, 0)).2.2.1), .int .i64 ((xs.getD j (0, 0, 0, 0, 0)).2.2.2.1), .int .i64 ((xs.getD j (0, 0, 0, 0, 0)).2.2.2.2)]), Is (.slice (some ad16) ys.length c2), Is (.int .i64 ((j : Nat) : Int)), Is (.pointer (some (ad16.add (j * 5)))), Is (.agg #[.int .i64 ((ys.getD j (0, 0, 0, 0, 0)).1), .int .i64 ((ys.getD j (0, 0, 0, 0, 0)).2.1), .int .i64 ((ys.getD j (0, 0, 0, 0, 0)).2.2.1), .int .i64 ((ys.getD j (0, 0, 0, 0, 0)).2.2.2.1), .int .i64 ((ys.getD j (0, 0, 0, 0, 0)).2.2.2.2)])]) 8 rfl (by decide +kernel) ?_
      refine t_is (.slice (some ad8) xs.length c1) rfl rfl rfl rfl (fun W_ hW_ F_ => rfl) ?_
      refine t_is (.int .i64 ((j : Nat) : Int)) rfl rfl rfl rfl (fun W_ hW_ F_ => rfl) ?_
      refine t_is (.pointer (some (ad8.add (j * 5)))) rfl rfl rfl rfl (fun W_ hW_ F_ => (run_as (run_at_k (P := Try.prog) (e := 73) (sz := 5) (by kernel_rfl) (by kernel_rfl) j (by first | omega | decide) _))) ?_
      refine t_is (.agg #[.int .i64 ((xs.getD j (0, 0, 0, 0, 0)).1), .int .i64 ((xs.getD j (0, 0, 0, 0, 0)).2.1), .int .i64 ((xs.getD j (0, 0, 0, 0, 0)).2.2.1), .int .i64 ((xs.getD j (0, 0, 0, 0, 0)).2.2.2.1), .int .i64 ((xs.getD j (0, 0, 0, 0, 0)).2.2.2.2)]) rfl rfl rfl rfl (fun W_ hW_ F_ => by have e0_ := cellOn he11 (below_of_drew hW_); have e1_ := cellOn he12 (below_of_drew hW_); have e2_ := cellOn he13 (below_of_drew hW_); have e3_ := cellOn he14 (below_of_drew hW_); have e4_ := cellOn he15 (below_of_drew hW_); simp [go_sem, sEv, sLook, nbeq, i64_w, -List.getD_eq_getElem?_getD, e0_, e1_, e2_, e3_, e4_, Try.underlying73]) ?_
      refine t_is (.slice (some ad16) ys.length c2) rfl rfl rfl rfl (fun W_ hW_ F_ => rfl) ?_
      refine t_is (.int .i64 ((j : Nat) : Int)) rfl rfl rfl rfl (fun W_ hW_ F_ => rfl) ?_
      refine t_is (.pointer (some (ad16.add (j * 5)))) rfl rfl rfl rfl (fun W_ hW_ F_ => (run_as (run_at_k (P := Try.prog) (e := 73) (sz := 5) (by kernel_rfl) (by kernel_rfl) j (by first | omega | decide) _))) ?_
      refine t_is (.agg #[.int .i64 ((ys.getD j (0, 0, 0, 0, 0)).1), .int .i64 ((ys.getD j (0, 0, 0, 0, 0)).2.1), .int .i64 ((ys.getD j (0, 0, 0, 0, 0)).2.2.1), .int .i64 ((ys.getD j (0, 0, 0, 0, 0)).2.2.2.1), .int .i64 ((ys.getD j (0, 0, 0, 0, 0)).2.2.2.2)]) rfl rfl rfl rfl (fun W_ hW_ F_ => by have e0_ := cellOn he19 (below_of_drew hW_); have e1_ := cellOn he20 (below_of_drew hW_); have e2_ := cellOn he21 (below_of_drew hW_); have e3_ := cellOn he22 (below_of_drew hW_); have e4_ := cellOn he23 (below_of_drew hW_); simp [go_sem, sEv, sLook, nbeq, i64_w, -List.getD_eq_getElem?_getD, e0_, e1_, e2_, e3_, e4_, Try.underlying73]) ?_
      refine t_tail ?_
      intro w24 hb25_ F26
      have hb25 := below_of_drew hb25_
      have hs_w24 := hb25.size
      clear F26
      refine rw_val (v := .bool (!(((xs.getD j (0, 0, 0, 0, 0)).1) == ((ys.getD j (0, 0, 0, 0, 0)).1) && (((xs.getD j (0, 0, 0, 0, 0)).2.1) == ((ys.getD j (0, 0, 0, 0, 0)).2.1) && (((xs.getD j (0, 0, 0, 0, 0)).2.2.1) == ((ys.getD j (0, 0, 0, 0, 0)).2.2.1) && (((xs.getD j (0, 0, 0, 0, 0)).2.2.2.1) == ((ys.getD j (0, 0, 0, 0, 0)).2.2.2.1) && (((xs.getD j (0, 0, 0, 0, 0)).2.2.2.2) == ((ys.getD j (0, 0, 0, 0, 0)).2.2.2.2)))))))) (w' := w24) rfl rfl rfl rfl (by simp [go_sem, sEv, sLook, nbeq, i64_w, -List.getD_eq_getElem?_getD, eqA73]) ?_
      refine rw_end ?_
      refine w_weaken (G' := [(0, .slice (some ad8) xs.length c1), (1, .slice (some ad16) ys.length c2), (12, .int .i64 ((xs.length : Nat) : Int)), (13, .int .i64 ((j : Nat) : Int)), (24, .bool (!(((xs.getD j (0, 0, 0, 0, 0)).1) == ((ys.getD j (0, 0, 0, 0, 0)).1) && (((xs.getD j (0, 0, 0, 0, 0)).2.1) == ((ys.getD j (0, 0, 0, 0, 0)).2.1) && (((xs.getD j (0, 0, 0, 0, 0)).2.2.1) == ((ys.getD j (0, 0, 0, 0, 0)).2.2.1) && (((xs.getD j (0, 0, 0, 0, 0)).2.2.2.1) == ((ys.getD j (0, 0, 0, 0, 0)).2.2.2.1) && (((xs.getD j (0, 0, 0, 0, 0)).2.2.2.2) == ((ys.getD j (0, 0, 0, 0, 0)).2.2.2.2))))))))]) ⟨rfl, rfl, rfl, rfl, rfl, trivial⟩ ?_
      refine w_cond rfl rfl (fun cD => ?_) (fun cD => ?_)
      · refine w_seq ?_
        refine w_region ?_
        refine rw_val (v := .bool false) (w' := w24) rfl rfl rfl rfl rfl ?_
        refine rw_end ?_
        refine w_ret (post_ret1 rfl rfl ?_)
        exact ⟨_, rfl, no_iff (getD_ne (z := (0, 0, 0, 0, 0)) (j := j) (fun e_ => by rw [e_] at cD; simp at cD)), (chain hB_L3 hb25)⟩
      · refine w_skip ?_
        refine w_blk ?_
        refine w_region ?_
        refine rw_val (v := .int .i64 ((j + 1 : Nat) : Int)) (w' := w24) rfl rfl rfl rfl (by simp [go_sem, sEv, sLook, nbeq, i64_w, -List.getD_eq_getElem?_getD]; exact wrap_id (by omega) (by omega)) ?_
        refine rw_val (v := .int .i64 ((j + 1 : Nat) : Int)) (w' := w24) rfl rfl rfl rfl rfl ?_
        refine rw_end ?_
        exact w_back (m_ - 1) [(0, .slice (some ad8) xs.length c1), (1, .slice (some ad16) ys.length c2), (12, .int .i64 ((xs.length : Nat) : Int)), (13, .int .i64 ((j + 1 : Nat) : Int))] (by omega) ⟨rfl, rfl, rfl, rfl, trivial⟩ ⟨(j + 1), by omega, by omega, (chain hB_L3 hb25), (take_eq_step (z := (0, 0, 0, 0, 0)) (by omega) (by omega) hf6 (by simp only [Bool.not_eq_false', Bool.not_false, Bool.and_eq_true, beq_iff_eq] at cD; obtain ⟨q1, q2, q3, q4, q5⟩ := cD; exact Prod.ext q1 (Prod.ext q2 (Prod.ext q3 (Prod.ext q4 q5))))), rfl⟩
    · have l27 : ¬ (((j : Nat) : Int) < ((xs.length : Nat) : Int)) := of_decide_eq_false cJ
      refine w_exit rfl ?_
      refine w_seq ?_
      refine w_region ?_
      refine rw_val (v := .bool true) (w' := w_L3) rfl rfl rfl rfl rfl ?_
      refine rw_end ?_
      refine w_ret (post_ret1 rfl rfl ?_)
      exact ⟨_, rfl, yes_iff (take_eq_all (by omega) (by omega) hf6), hB_L3⟩
set_option maxHeartbeats 4000000 in
theorem equal_ent (w : World) (A1 : Option Addr) (c1 : Nat) (A2 : Option Addr) (c2 : Nat) (xs ys : List EL) (h1 : kEntry.C w A1 xs.length xs) (hc1 : xs.length ≤ c1) (h2 : kEntry.C w A2 ys.length ys) (hc2 : ys.length ≤ c2) (hl1 : xs.length ≤ 140737488355328) (hl2 : ys.length ≤ 140737488355328) :
    Calls Try.prog 45 #[.slice A1 xs.length c1, .slice A2 ys.length c2] w fun e w' => ∃ bb, e = .returned (.bool bb) ∧ (bb = true ↔ xs = ys) ∧ Below w.heap.size w w' := by
  refine calls_flow Try.func45 rfl 26 rfl (Nat.le_of_ble_eq_true rfl) [(0, .slice A1 xs.length c1), (1, .slice A2 ys.length c2)] ?_ ?_
  · intro t v h; exact args_look rfl t v h
  refine w_seq ?_
  refine w_region ?_
  refine rw_val (v := .bool false) (w' := w) rfl rfl rfl rfl rfl ?_
  refine rw_end ?_
  refine w_seq ?_
  refine w_seq ?_
  refine w_region ?_
  refine rw_val (v := .slice A1 xs.length c1) (w' := w) rfl rfl rfl rfl rfl ?_
  refine rw_val (v := .int .i64 ((xs.length : Nat) : Int)) (w' := w) rfl rfl rfl rfl (by simp [go_sem, sEv, sLook, nbeq, i64_w, -List.getD_eq_getElem?_getD]) ?_
  refine rw_val (v := .slice A2 ys.length c2) (w' := w) rfl rfl rfl rfl rfl ?_
  refine rw_val (v := .int .i64 ((ys.length : Nat) : Int)) (w' := w) rfl rfl rfl rfl (by simp [go_sem, sEv, sLook, nbeq, i64_w, -List.getD_eq_getElem?_getD]) ?_
  refine rw_val (v := .bool (((xs.length : Nat) : Int) != ((ys.length : Nat) : Int))) (w' := w) rfl rfl rfl rfl (by simp [go_sem, sEv, sLook, nbeq, i64_w, -List.getD_eq_getElem?_getD]) ?_
  refine rw_end ?_
  refine w_weaken (G' := [(0, .slice A1 xs.length c1), (1, .slice A2 ys.length c2), (4, .bool false), (10, .bool (((xs.length : Nat) : Int) != ((ys.length : Nat) : Int)))]) ⟨rfl, rfl, rfl, rfl, trivial⟩ ?_
  refine w_cond rfl rfl (fun cL => ?_) (fun cL => ?_)
  · have l1 : ¬ ((xs.length : Nat) : Int) = ((ys.length : Nat) : Int) := by simpa using cL
    refine w_seq ?_
    refine w_region ?_
    refine rw_val (v := .bool false) (w' := w) rfl rfl rfl rfl rfl ?_
    refine rw_end ?_
    refine w_ret (post_ret1 rfl rfl ?_)
    exact ⟨_, rfl, no_iff (len_ne (by omega)), (Below.refl _ _)⟩
  · have l2 : ((xs.length : Nat) : Int) = ((ys.length : Nat) : Int) := by simpa using cL
    refine w_skip ?_
    refine w_seq ?_
    refine w_seq ?_
    refine w_region ?_
    refine rw_val (v := .slice A1 xs.length c1) (w' := w) rfl rfl rfl rfl rfl ?_
    refine rw_val (v := .int .i64 ((xs.length : Nat) : Int)) (w' := w) rfl rfl rfl rfl (by simp [go_sem, sEv, sLook, nbeq, i64_w, -List.getD_eq_getElem?_getD]) ?_
    refine rw_val (v := .int .i64 0) (w' := w) rfl rfl rfl rfl rfl ?_
    refine rw_end ?_
    refine w_block ?_
    refine w_loop (fun m_ G W_ => ∃ (j : Nat), j + m_ = xs.length ∧ ys.length = xs.length ∧ Below w.heap.size w W_ ∧ (xs.take j = ys.take j) ∧ G = [(0, .slice A1 xs.length c1), (1, .slice A2 ys.length c2), (12, .int .i64 ((xs.length : Nat) : Int)), (13, .int .i64 ((j : Nat) : Int))]) xs.length [(0, .slice A1 xs.length c1), (1, .slice A2 ys.length c2), (12, .int .i64 ((xs.length : Nat) : Int)), (13, .int .i64 0)] ⟨0, by omega, by omega, (Below.refl _ _), (by simp), rfl⟩ ⟨rfl, rfl, rfl, rfl, trivial⟩ ?_
    rintro m_ G w_L3 ⟨j, hp4, hp5, hB_L3, hf6, rfl⟩
    have hs_w_L3 := hB_L3.size
    refine w_seq ?_
    refine w_region ?_
    refine rw_val (v := .bool (decide (((j : Nat) : Int) < ((xs.length : Nat) : Int)))) (w' := w_L3) rfl rfl rfl rfl (by simp [go_sem, sEv, sLook, nbeq, i64_w, -List.getD_eq_getElem?_getD]) ?_
    refine rw_end ?_
    refine w_seq ?_
    refine w_cond rfl rfl (fun cJ => ?_) (fun cJ => ?_)
    · have l7 : (((j : Nat) : Int) < ((xs.length : Nat) : Int)) := of_decide_eq_true cJ
      refine w_skip ?_
      refine w_seq ?_
      refine w_block ?_
      refine w_seq ?_
      refine w_region ?_
      refine rw_val (v := .int .i64 ((j : Nat) : Int)) (w' := w_L3) rfl rfl rfl rfl rfl ?_
      refine rw_val (v := .int .i64 ((j : Nat) : Int)) (w' := w_L3) rfl rfl rfl rfl rfl ?_
      refine rw_end ?_
      refine w_seq ?_
      obtain ⟨ad8, hA9, hc10⟩ := flat_at (Kd.C_below h1 hB_L3) EL.zero j (by first | omega | decide)
      subst hA9
      obtain ⟨ad11, hA12, hc13⟩ := flat_at (Kd.C_below h2 hB_L3) EL.zero j (by first | omega | decide)
      subst hA12
      refine w_drawk (M := [0, 0, 3, 7, 0, 0, 48, 112, 255]) (ss := [Is (.slice (some ad8) xs.length c1), Is (.int .i64 ((j : Nat) : Int)), Is (.pointer (some (ad8.add (j * 76)))), Is (.agg (earr (xs.getD j EL.zero))), Is (.slice (some ad11) ys.length c2), Is (.int .i64 ((j : Nat) : Int)), Is (.pointer (some (ad11.add (j * 76)))), Is (.agg (earr (ys.getD j EL.zero)))]) 8 rfl (by decide +kernel) ?_
      refine t_is (.slice (some ad8) xs.length c1) rfl rfl rfl rfl (fun W_ hW_ F_ => rfl) ?_
      refine t_is (.int .i64 ((j : Nat) : Int)) rfl rfl rfl rfl (fun W_ hW_ F_ => rfl) ?_
      refine t_is (.pointer (some (ad8.add (j * 76)))) rfl rfl rfl rfl (fun W_ hW_ F_ => (run_as (run_at_k (P := Try.prog) (e := 83) (sz := 76) (by kernel_rfl) (by kernel_rfl) j (by first | omega | decide) _))) ?_
      refine t_is (.agg (earr (xs.getD j EL.zero))) rfl rfl rfl rfl (fun W_ hW_ F_ => (run_as (load_eel (x := (xs.getD j EL.zero)) (fun j u hj => cellOn (hc10 j u hj) (chain (Below.refl _ _) (below_of_drew hW_)))))) ?_
      refine t_is (.slice (some ad11) ys.length c2) rfl rfl rfl rfl (fun W_ hW_ F_ => rfl) ?_
      refine t_is (.int .i64 ((j : Nat) : Int)) rfl rfl rfl rfl (fun W_ hW_ F_ => rfl) ?_
      refine t_is (.pointer (some (ad11.add (j * 76)))) rfl rfl rfl rfl (fun W_ hW_ F_ => (run_as (run_at_k (P := Try.prog) (e := 83) (sz := 76) (by kernel_rfl) (by kernel_rfl) j (by first | omega | decide) _))) ?_
      refine t_is (.agg (earr (ys.getD j EL.zero))) rfl rfl rfl rfl (fun W_ hW_ F_ => (run_as (load_eel (x := (ys.getD j EL.zero)) (fun j u hj => cellOn (hc13 j u hj) (chain (Below.refl _ _) (below_of_drew hW_)))))) ?_
      refine t_tail ?_
      intro w14 hb15_ F16
      have hb15 := below_of_drew hb15_
      have hs_w14 := hb15.size
      clear F16
      refine rw_val (v := .bool (!(eqE (xs.getD j EL.zero) (ys.getD j EL.zero)))) (w' := w14) rfl rfl rfl rfl (run_as (guard_ne_entry _ _ _ _ _)) ?_
      refine rw_end ?_
      refine w_weaken (G' := [(0, .slice (some ad8) xs.length c1), (1, .slice (some ad11) ys.length c2), (12, .int .i64 ((xs.length : Nat) : Int)), (13, .int .i64 ((j : Nat) : Int)), (24, .bool (!(eqE (xs.getD j EL.zero) (ys.getD j EL.zero))))]) ⟨rfl, rfl, rfl, rfl, rfl, trivial⟩ ?_
      refine w_cond rfl rfl (fun cD => ?_) (fun cD => ?_)
      · refine w_seq ?_
        refine w_region ?_
        refine rw_val (v := .bool false) (w' := w14) rfl rfl rfl rfl rfl ?_
        refine rw_end ?_
        refine w_ret (post_ret1 rfl rfl ?_)
        exact ⟨_, rfl, no_iff (getD_ne (z := EL.zero) (j := j) (fun e_ => by rw [e_] at cD; simp [eqE_self] at cD)), (chain hB_L3 hb15)⟩
      · refine w_skip ?_
        refine w_blk ?_
        refine w_region ?_
        refine rw_val (v := .int .i64 ((j + 1 : Nat) : Int)) (w' := w14) rfl rfl rfl rfl (by simp [go_sem, sEv, sLook, nbeq, i64_w, -List.getD_eq_getElem?_getD]; exact wrap_id (by omega) (by omega)) ?_
        refine rw_val (v := .int .i64 ((j + 1 : Nat) : Int)) (w' := w14) rfl rfl rfl rfl rfl ?_
        refine rw_end ?_
        exact w_back (m_ - 1) [(0, .slice (some ad8) xs.length c1), (1, .slice (some ad11) ys.length c2), (12, .int .i64 ((xs.length : Nat) : Int)), (13, .int .i64 ((j + 1 : Nat) : Int))] (by omega) ⟨rfl, rfl, rfl, rfl, trivial⟩ ⟨(j + 1), by omega, by omega, (chain hB_L3 hb15), (take_eq_step (z := EL.zero) (by omega) (by omega) hf6 ((eqE_iff _ _).1 (by simpa using cD))), rfl⟩
    · have l17 : ¬ (((j : Nat) : Int) < ((xs.length : Nat) : Int)) := of_decide_eq_false cJ
      refine w_exit rfl ?_
      refine w_seq ?_
      refine w_region ?_
      refine rw_val (v := .bool true) (w' := w_L3) rfl rfl rfl rfl rfl ?_
      refine rw_end ?_
      refine w_ret (post_ret1 rfl rfl ?_)
      exact ⟨_, rfl, yes_iff (take_eq_all (by omega) (by omega) hf6), hB_L3⟩
theorem same_iff (m n : NT) : m = n ↔ (m.kind = n.kind ∧ m.fr = n.fr ∧ m.tw = n.tw) ∧ (m.nums = n.nums ∧ m.ops = n.ops ∧ m.ents = n.ents) := by
  cases m
  cases n
  simp [and_assoc]
set_option maxHeartbeats 4000000 in
theorem same_calls (w : World) (m n : NT) (A3 : Option Addr) (c3 : Nat) (A4 : Option Addr) (c4 : Nat) (A5 : Option Addr) (c5 : Nat) (hn3 : (Kd.int .i64).C w A3 m.nums.length m.nums) (hc3 : m.nums.length ≤ c3) (hk3 : m.nums.length ≤ 140737488355328) (hn4 : kOp.C w A4 m.ops.length m.ops) (hc4 : m.ops.length ≤ c4) (hk4 : m.ops.length ≤ 140737488355328) (hn5 : kEntry.C w A5 m.ents.length m.ents) (hc5 : m.ents.length ≤ c5) (hk5 : m.ents.length ≤ 140737488355328) (A6 : Option Addr) (c6 : Nat) (A7 : Option Addr) (c7 : Nat) (A8 : Option Addr) (c8 : Nat) (hn6 : (Kd.int .i64).C w A6 n.nums.length n.nums) (hc6 : n.nums.length ≤ c6) (hk6 : n.nums.length ≤ 140737488355328) (hn7 : kOp.C w A7 n.ops.length n.ops) (hc7 : n.ops.length ≤ c7) (hk7 : n.ops.length ≤ 140737488355328) (hn8 : kEntry.C w A8 n.ents.length n.ents) (hc8 : n.ents.length ≤ c8) (hk8 : n.ents.length ≤ 140737488355328) :
    Calls Try.prog 22 #[.agg #[.int .i64 m.kind, .int .i64 m.fr, .int .i64 m.tw, .slice A3 m.nums.length c3, .slice A4 m.ops.length c4, .slice A5 m.ents.length c5], .agg #[.int .i64 n.kind, .int .i64 n.fr, .int .i64 n.tw, .slice A6 n.nums.length c6, .slice A7 n.ops.length c7, .slice A8 n.ents.length c8]] w fun e w' => ∃ bb, e = .returned (.bool bb) ∧ (bb = true ↔ m = n) ∧ Below w.heap.size w w' := by
  refine calls_flow Try.func22 rfl 45 rfl (Nat.le_of_ble_eq_true rfl) [(0, .agg #[.int .i64 m.kind, .int .i64 m.fr, .int .i64 m.tw, .slice A3 m.nums.length c3, .slice A4 m.ops.length c4, .slice A5 m.ents.length c5]), (1, .agg #[.int .i64 n.kind, .int .i64 n.fr, .int .i64 n.tw, .slice A6 n.nums.length c6, .slice A7 n.ops.length c7, .slice A8 n.ents.length c8])] ?_ ?_
  · intro t v h; exact args_look rfl t v h
  refine w_seq ?_
  refine w_region ?_
  refine rw_new (cs := #[.int .i64 m.kind, .int .i64 m.fr, .int .i64 m.tw, .slice A3 m.nums.length c3, .slice A4 m.ops.length c4, .slice A5 m.ents.length c5]) (t := 26) (fun g => .pointer (some ⟨g, 0, none⟩)) rfl rfl rfl rfl (by simp [go_sem, sEv, sLook, nbeq, i64_w, -List.getD_eq_getElem?_getD]) ?_
  intro g1 w2 hg6 hz5 hb3 hk4
  have hs_w2 := hb3.size
  refine rw_new (cs := #[.int .i64 n.kind, .int .i64 n.fr, .int .i64 n.tw, .slice A6 n.nums.length c6, .slice A7 n.ops.length c7, .slice A8 n.ents.length c8]) (t := 26) (fun g => .pointer (some ⟨g, 0, none⟩)) rfl rfl rfl rfl (by simp [go_sem, sEv, sLook, nbeq, i64_w, -List.getD_eq_getElem?_getD]) ?_
  intro g7 w8 hg12 hz11 hb9 hk10
  have hs_w8 := hb9.size
  refine rw_val (v := .bool false) (w' := w8) rfl rfl rfl rfl rfl ?_
  refine rw_end ?_
  refine w_seq ?_
  refine w_region ?_
  refine rw_val (v := .pointer (some ⟨g1, 0, none⟩)) (w' := w8) rfl rfl rfl rfl (by simp [go_sem, sEv, sLook, nbeq, i64_w, -List.getD_eq_getElem?_getD, Try.underlying26]) ?_
  refine rw_val (v := .int .i64 m.kind) (w' := w8) rfl rfl rfl rfl (by have eb_ := (hk4.on hb9); have e0_ := eb_.cellv (i := 0) (v := (.int .i64 m.kind : Value)) rfl; simp [go_sem, sEv, sLook, nbeq, i64_w, -List.getD_eq_getElem?_getD, e0_]) ?_
  refine rw_val (v := .pointer (some ⟨g7, 0, none⟩)) (w' := w8) rfl rfl rfl rfl (by simp [go_sem, sEv, sLook, nbeq, i64_w, -List.getD_eq_getElem?_getD, Try.underlying26]) ?_
  refine rw_val (v := .int .i64 n.kind) (w' := w8) rfl rfl rfl rfl (by have eb_ := hk10; have e0_ := eb_.cellv (i := 0) (v := (.int .i64 n.kind : Value)) rfl; simp [go_sem, sEv, sLook, nbeq, i64_w, -List.getD_eq_getElem?_getD, e0_]) ?_
  refine rw_val (v := .bool (m.kind == n.kind)) (w' := w8) rfl rfl rfl rfl (by simp [go_sem, sEv, sLook, nbeq, i64_w, -List.getD_eq_getElem?_getD]) ?_
  refine rw_val (v := .bool (m.kind == n.kind)) (w' := w8) rfl rfl rfl rfl rfl ?_
  rcases bcase (m.kind == n.kind) with cK | cK
  · have l13 : ¬ m.kind = n.kind := by simpa using cK
    refine rw_off (c := (m.kind == n.kind)) rfl rfl rfl (by first | (rw [cK]; rfl) | simp [cK]) rfl rfl ?_
    refine rw_off (c := (m.kind == n.kind)) rfl rfl rfl (by first | (rw [cK]; rfl) | simp [cK]) rfl rfl ?_
    refine rw_off (c := (m.kind == n.kind)) rfl rfl rfl (by first | (rw [cK]; rfl) | simp [cK]) rfl rfl ?_
    refine rw_off (c := (m.kind == n.kind)) rfl rfl rfl (by first | (rw [cK]; rfl) | simp [cK]) rfl rfl ?_
    refine rw_off (c := (m.kind == n.kind)) rfl rfl rfl (by first | (rw [cK]; rfl) | simp [cK]) rfl rfl ?_
    refine rw_val (v := .bool false) (w' := w8) rfl rfl rfl rfl (by first | (simp [go_sem, sEv, sLook, nbeq, i64_w, -List.getD_eq_getElem?_getD, cK]; done) | (rw [cK]; simp [go_sem, sEv, sLook, nbeq, i64_w, -List.getD_eq_getElem?_getD]; done) | (simp [go_sem, sEv, sLook, nbeq, i64_w, -List.getD_eq_getElem?_getD] <;> omega) | (simp [go_sem, sEv, sLook, nbeq, i64_w, -List.getD_eq_getElem?_getD]; intro h_; exact absurd (by omega) h_)) ?_
    refine rw_val (v := .bool false) (w' := w8) rfl rfl rfl rfl rfl ?_
    refine rw_off (c := false) rfl rfl rfl rfl rfl rfl ?_
    refine rw_off (c := false) rfl rfl rfl rfl rfl rfl ?_
    refine rw_off (c := false) rfl rfl rfl rfl rfl rfl ?_
    refine rw_off (c := false) rfl rfl rfl rfl rfl rfl ?_
    refine rw_off (c := false) rfl rfl rfl rfl rfl rfl ?_
    refine rw_val (v := .bool false) (w' := w8) rfl rfl rfl rfl (by simp [go_sem, sEv, sLook, nbeq, i64_w, -List.getD_eq_getElem?_getD]) ?_
    refine rw_val (v := .bool false) (w' := w8) rfl rfl rfl rfl rfl ?_
    refine rw_off (c := false) rfl rfl rfl rfl rfl rfl ?_
    refine rw_off (c := false) rfl rfl rfl rfl rfl rfl ?_
    refine rw_off (c := false) rfl rfl rfl rfl rfl rfl ?_
    refine rw_off (c := false) rfl rfl rfl rfl rfl rfl ?_
    refine rw_off (c := false) rfl rfl rfl rfl rfl rfl ?_
    refine rw_val (v := .bool false) (w' := w8) rfl rfl rfl rfl (by simp [go_sem, sEv, sLook, nbeq, i64_w, -List.getD_eq_getElem?_getD]) ?_
    refine rw_val (v := .bool false) (w' := w8) rfl rfl rfl rfl rfl ?_
    refine rw_off (c := false) rfl rfl rfl rfl rfl rfl ?_
    refine rw_off (c := false) rfl rfl rfl rfl rfl rfl ?_
    refine rw_off (c := false) rfl rfl rfl rfl rfl rfl ?_
    refine rw_off (c := false) rfl rfl rfl rfl rfl rfl ?_
    refine rw_off (c := false) rfl rfl rfl rfl rfl rfl ?_
    refine rw_val (v := .bool false) (w' := w8) rfl rfl rfl rfl (by simp [go_sem, sEv, sLook, nbeq, i64_w, -List.getD_eq_getElem?_getD]) ?_
    refine rw_val (v := .bool false) (w' := w8) rfl rfl rfl rfl rfl ?_
    refine rw_off (c := false) rfl rfl rfl rfl rfl rfl ?_
    refine rw_off (c := false) rfl rfl rfl rfl rfl rfl ?_
    refine rw_off (c := false) rfl rfl rfl rfl rfl rfl ?_
    refine rw_off (c := false) rfl rfl rfl rfl rfl rfl ?_
    refine rw_off (c := false) rfl rfl rfl rfl rfl rfl ?_
    refine rw_val (v := .bool false) (w' := w8) rfl rfl rfl rfl (by simp [go_sem, sEv, sLook, nbeq, i64_w, -List.getD_eq_getElem?_getD]) ?_
    refine rw_val (v := .bool false) (w' := w8) rfl rfl rfl rfl rfl ?_
    refine rw_end ?_
    refine w_weaken (G' := [(4, .bool false)]) ⟨rfl, trivial⟩ ?_
    refine w_ret (post_ret1 rfl rfl ?_)
    refine ⟨_, rfl, ?_, (chain hb3 hb9)⟩
    rw [same_iff]
    first | (simp_all; done) | (refine no_iff (fun h_ => ?_); obtain ⟨⟨q1, q2, q3⟩, q4, q5, q6⟩ := h_; first | omega | (simp_all; done))
  · have l14 : m.kind = n.kind := by simpa using cK
    refine rw_on (c := (m.kind == n.kind)) rfl rfl rfl (by first | (rw [cK]; rfl) | simp [cK]) ?_
    refine rw_val (v := .pointer (some ⟨g1, 1, none⟩)) (w' := w8) rfl rfl rfl rfl (by simp [go_sem, sEv, sLook, nbeq, i64_w, -List.getD_eq_getElem?_getD, Try.underlying26]) ?_
    refine rw_on (c := (m.kind == n.kind)) rfl rfl rfl (by first | (rw [cK]; rfl) | simp [cK]) ?_
    refine rw_val (v := .int .i64 m.fr) (w' := w8) rfl rfl rfl rfl (by have eb_ := (hk4.on hb9); have e0_ := eb_.cellv (i := 1) (v := (.int .i64 m.fr : Value)) rfl; simp [go_sem, sEv, sLook, nbeq, i64_w, -List.getD_eq_getElem?_getD, e0_]) ?_
    refine rw_on (c := (m.kind == n.kind)) rfl rfl rfl (by first | (rw [cK]; rfl) | simp [cK]) ?_
    refine rw_val (v := .pointer (some ⟨g7, 1, none⟩)) (w' := w8) rfl rfl rfl rfl (by simp [go_sem, sEv, sLook, nbeq, i64_w, -List.getD_eq_getElem?_getD, Try.underlying26]) ?_
    refine rw_on (c := (m.kind == n.kind)) rfl rfl rfl (by first | (rw [cK]; rfl) | simp [cK]) ?_
    refine rw_val (v := .int .i64 n.fr) (w' := w8) rfl rfl rfl rfl (by have eb_ := hk10; have e0_ := eb_.cellv (i := 1) (v := (.int .i64 n.fr : Value)) rfl; simp [go_sem, sEv, sLook, nbeq, i64_w, -List.getD_eq_getElem?_getD, e0_]) ?_
    refine rw_on (c := (m.kind == n.kind)) rfl rfl rfl (by first | (rw [cK]; rfl) | simp [cK]) ?_
    refine rw_val (v := .bool (m.fr == n.fr)) (w' := w8) rfl rfl rfl rfl (by simp [go_sem, sEv, sLook, nbeq, i64_w, -List.getD_eq_getElem?_getD]) ?_
    refine rw_val (v := .bool (m.fr == n.fr)) (w' := w8) rfl rfl rfl rfl (by first | (simp [go_sem, sEv, sLook, nbeq, i64_w, -List.getD_eq_getElem?_getD, cK]; done) | (rw [cK]; simp [go_sem, sEv, sLook, nbeq, i64_w, -List.getD_eq_getElem?_getD]; done) | (simp [go_sem, sEv, sLook, nbeq, i64_w, -List.getD_eq_getElem?_getD] <;> omega) | (simp [go_sem, sEv, sLook, nbeq, i64_w, -List.getD_eq_getElem?_getD]; intro h_; exact absurd (by omega) h_)) ?_
    refine rw_val (v := .bool (m.fr == n.fr)) (w' := w8) rfl rfl rfl rfl rfl ?_
    rcases bcase (m.fr == n.fr) with cF | cF
    · have l15 : ¬ m.fr = n.fr := by simpa using cF
      refine rw_off (c := (m.fr == n.fr)) rfl rfl rfl (by first | (rw [cF]; rfl) | simp [cF]) rfl rfl ?_
      refine rw_off (c := (m.fr == n.fr)) rfl rfl rfl (by first | (rw [cF]; rfl) | simp [cF]) rfl rfl ?_
      refine rw_off (c := (m.fr == n.fr)) rfl rfl rfl (by first | (rw [cF]; rfl) | simp [cF]) rfl rfl ?_
      refine rw_off (c := (m.fr == n.fr)) rfl rfl rfl (by first | (rw [cF]; rfl) | simp [cF]) rfl rfl ?_
      refine rw_off (c := (m.fr == n.fr)) rfl rfl rfl (by first | (rw [cF]; rfl) | simp [cF]) rfl rfl ?_
      refine rw_val (v := .bool false) (w' := w8) rfl rfl rfl rfl (by first | (simp [go_sem, sEv, sLook, nbeq, i64_w, -List.getD_eq_getElem?_getD, cF]; done) | (rw [cF]; simp [go_sem, sEv, sLook, nbeq, i64_w, -List.getD_eq_getElem?_getD]; done) | (simp [go_sem, sEv, sLook, nbeq, i64_w, -List.getD_eq_getElem?_getD] <;> omega) | (simp [go_sem, sEv, sLook, nbeq, i64_w, -List.getD_eq_getElem?_getD]; intro h_; exact absurd (by omega) h_)) ?_
      refine rw_val (v := .bool false) (w' := w8) rfl rfl rfl rfl rfl ?_
      refine rw_off (c := false) rfl rfl rfl rfl rfl rfl ?_
      refine rw_off (c := false) rfl rfl rfl rfl rfl rfl ?_
      refine rw_off (c := false) rfl rfl rfl rfl rfl rfl ?_
      refine rw_off (c := false) rfl rfl rfl rfl rfl rfl ?_
      refine rw_off (c := false) rfl rfl rfl rfl rfl rfl ?_
      refine rw_val (v := .bool false) (w' := w8) rfl rfl rfl rfl (by simp [go_sem, sEv, sLook, nbeq, i64_w, -List.getD_eq_getElem?_getD]) ?_
      refine rw_val (v := .bool false) (w' := w8) rfl rfl rfl rfl rfl ?_
      refine rw_off (c := false) rfl rfl rfl rfl rfl rfl ?_
      refine rw_off (c := false) rfl rfl rfl rfl rfl rfl ?_
      refine rw_off (c := false) rfl rfl rfl rfl rfl rfl ?_
      refine rw_off (c := false) rfl rfl rfl rfl rfl rfl ?_
      refine rw_off (c := false) rfl rfl rfl rfl rfl rfl ?_
      refine rw_val (v := .bool false) (w' := w8) rfl rfl rfl rfl (by simp [go_sem, sEv, sLook, nbeq, i64_w, -List.getD_eq_getElem?_getD]) ?_
      refine rw_val (v := .bool false) (w' := w8) rfl rfl rfl rfl rfl ?_
      refine rw_off (c := false) rfl rfl rfl rfl rfl rfl ?_
      refine rw_off (c := false) rfl rfl rfl rfl rfl rfl ?_
      refine rw_off (c := false) rfl rfl rfl rfl rfl rfl ?_
      refine rw_off (c := false) rfl rfl rfl rfl rfl rfl ?_
      refine rw_off (c := false) rfl rfl rfl rfl rfl rfl ?_
      refine rw_val (v := .bool false) (w' := w8) rfl rfl rfl rfl (by simp [go_sem, sEv, sLook, nbeq, i64_w, -List.getD_eq_getElem?_getD]) ?_
      refine rw_val (v := .bool false) (w' := w8) rfl rfl rfl rfl rfl ?_
      refine rw_end ?_
      refine w_weaken (G' := [(4, .bool false)]) ⟨rfl, trivial⟩ ?_
      refine w_ret (post_ret1 rfl rfl ?_)
      refine ⟨_, rfl, ?_, (chain hb3 hb9)⟩
      rw [same_iff]
      first | (simp_all; done) | (refine no_iff (fun h_ => ?_); obtain ⟨⟨q1, q2, q3⟩, q4, q5, q6⟩ := h_; first | omega | (simp_all; done))
    · have l16 : m.fr = n.fr := by simpa using cF
      refine rw_on (c := (m.fr == n.fr)) rfl rfl rfl (by first | (rw [cF]; rfl) | simp [cF]) ?_
      refine rw_val (v := .pointer (some ⟨g1, 2, none⟩)) (w' := w8) rfl rfl rfl rfl (by simp [go_sem, sEv, sLook, nbeq, i64_w, -List.getD_eq_getElem?_getD, Try.underlying26]) ?_
      refine rw_on (c := (m.fr == n.fr)) rfl rfl rfl (by first | (rw [cF]; rfl) | simp [cF]) ?_
      refine rw_val (v := .int .i64 m.tw) (w' := w8) rfl rfl rfl rfl (by have eb_ := (hk4.on hb9); have e0_ := eb_.cellv (i := 2) (v := (.int .i64 m.tw : Value)) rfl; simp [go_sem, sEv, sLook, nbeq, i64_w, -List.getD_eq_getElem?_getD, e0_]) ?_
      refine rw_on (c := (m.fr == n.fr)) rfl rfl rfl (by first | (rw [cF]; rfl) | simp [cF]) ?_
      refine rw_val (v := .pointer (some ⟨g7, 2, none⟩)) (w' := w8) rfl rfl rfl rfl (by simp [go_sem, sEv, sLook, nbeq, i64_w, -List.getD_eq_getElem?_getD, Try.underlying26]) ?_
      refine rw_on (c := (m.fr == n.fr)) rfl rfl rfl (by first | (rw [cF]; rfl) | simp [cF]) ?_
      refine rw_val (v := .int .i64 n.tw) (w' := w8) rfl rfl rfl rfl (by have eb_ := hk10; have e0_ := eb_.cellv (i := 2) (v := (.int .i64 n.tw : Value)) rfl; simp [go_sem, sEv, sLook, nbeq, i64_w, -List.getD_eq_getElem?_getD, e0_]) ?_
      refine rw_on (c := (m.fr == n.fr)) rfl rfl rfl (by first | (rw [cF]; rfl) | simp [cF]) ?_
      refine rw_val (v := .bool (m.tw == n.tw)) (w' := w8) rfl rfl rfl rfl (by simp [go_sem, sEv, sLook, nbeq, i64_w, -List.getD_eq_getElem?_getD]) ?_
      refine rw_val (v := .bool (m.tw == n.tw)) (w' := w8) rfl rfl rfl rfl (by first | (simp [go_sem, sEv, sLook, nbeq, i64_w, -List.getD_eq_getElem?_getD, cF]; done) | (rw [cF]; simp [go_sem, sEv, sLook, nbeq, i64_w, -List.getD_eq_getElem?_getD]; done) | (simp [go_sem, sEv, sLook, nbeq, i64_w, -List.getD_eq_getElem?_getD] <;> omega) | (simp [go_sem, sEv, sLook, nbeq, i64_w, -List.getD_eq_getElem?_getD]; intro h_; exact absurd (by omega) h_)) ?_
      refine rw_val (v := .bool (m.tw == n.tw)) (w' := w8) rfl rfl rfl rfl rfl ?_
      rcases bcase (m.tw == n.tw) with cT | cT
      · have l17 : ¬ m.tw = n.tw := by simpa using cT
        refine rw_off (c := (m.tw == n.tw)) rfl rfl rfl (by first | (rw [cT]; rfl) | simp [cT]) rfl rfl ?_
        refine rw_off (c := (m.tw == n.tw)) rfl rfl rfl (by first | (rw [cT]; rfl) | simp [cT]) rfl rfl ?_
        refine rw_off (c := (m.tw == n.tw)) rfl rfl rfl (by first | (rw [cT]; rfl) | simp [cT]) rfl rfl ?_
        refine rw_off (c := (m.tw == n.tw)) rfl rfl rfl (by first | (rw [cT]; rfl) | simp [cT]) rfl rfl ?_
        refine rw_off (c := (m.tw == n.tw)) rfl rfl rfl (by first | (rw [cT]; rfl) | simp [cT]) rfl rfl ?_
        refine rw_val (v := .bool false) (w' := w8) rfl rfl rfl rfl (by first | (simp [go_sem, sEv, sLook, nbeq, i64_w, -List.getD_eq_getElem?_getD, cT]; done) | (rw [cT]; simp [go_sem, sEv, sLook, nbeq, i64_w, -List.getD_eq_getElem?_getD]; done) | (simp [go_sem, sEv, sLook, nbeq, i64_w, -List.getD_eq_getElem?_getD] <;> omega) | (simp [go_sem, sEv, sLook, nbeq, i64_w, -List.getD_eq_getElem?_getD]; intro h_; exact absurd (by omega) h_)) ?_
        refine rw_val (v := .bool false) (w' := w8) rfl rfl rfl rfl rfl ?_
        refine rw_off (c := false) rfl rfl rfl rfl rfl rfl ?_
        refine rw_off (c := false) rfl rfl rfl rfl rfl rfl ?_
        refine rw_off (c := false) rfl rfl rfl rfl rfl rfl ?_
        refine rw_off (c := false) rfl rfl rfl rfl rfl rfl ?_
        refine rw_off (c := false) rfl rfl rfl rfl rfl rfl ?_
        refine rw_val (v := .bool false) (w' := w8) rfl rfl rfl rfl (by simp [go_sem, sEv, sLook, nbeq, i64_w, -List.getD_eq_getElem?_getD]) ?_
        refine rw_val (v := .bool false) (w' := w8) rfl rfl rfl rfl rfl ?_
        refine rw_off (c := false) rfl rfl rfl rfl rfl rfl ?_
        refine rw_off (c := false) rfl rfl rfl rfl rfl rfl ?_
        refine rw_off (c := false) rfl rfl rfl rfl rfl rfl ?_
        refine rw_off (c := false) rfl rfl rfl rfl rfl rfl ?_
        refine rw_off (c := false) rfl rfl rfl rfl rfl rfl ?_
        refine rw_val (v := .bool false) (w' := w8) rfl rfl rfl rfl (by simp [go_sem, sEv, sLook, nbeq, i64_w, -List.getD_eq_getElem?_getD]) ?_
        refine rw_val (v := .bool false) (w' := w8) rfl rfl rfl rfl rfl ?_
        refine rw_end ?_
        refine w_weaken (G' := [(4, .bool false)]) ⟨rfl, trivial⟩ ?_
        refine w_ret (post_ret1 rfl rfl ?_)
        refine ⟨_, rfl, ?_, (chain hb3 hb9)⟩
        rw [same_iff]
        first | (simp_all; done) | (refine no_iff (fun h_ => ?_); obtain ⟨⟨q1, q2, q3⟩, q4, q5, q6⟩ := h_; first | omega | (simp_all; done))
      · have l18 : m.tw = n.tw := by simpa using cT
        refine rw_on (c := (m.tw == n.tw)) rfl rfl rfl (by first | (rw [cT]; rfl) | simp [cT]) ?_
        refine rw_val (v := .pointer (some ⟨g1, 3, none⟩)) (w' := w8) rfl rfl rfl rfl (by simp [go_sem, sEv, sLook, nbeq, i64_w, -List.getD_eq_getElem?_getD, Try.underlying26]) ?_
        refine rw_on (c := (m.tw == n.tw)) rfl rfl rfl (by first | (rw [cT]; rfl) | simp [cT]) ?_
        refine rw_val (v := .slice A3 m.nums.length c3) (w' := w8) rfl rfl rfl rfl (by have eb_ := (hk4.on hb9); have e0_ := eb_.cellv (i := 3) (v := (.slice A3 m.nums.length c3 : Value)) rfl; simp [go_sem, sEv, sLook, nbeq, i64_w, -List.getD_eq_getElem?_getD, e0_, Try.underlying22]) ?_
        refine rw_on (c := (m.tw == n.tw)) rfl rfl rfl (by first | (rw [cT]; rfl) | simp [cT]) ?_
        refine rw_val (v := .pointer (some ⟨g7, 3, none⟩)) (w' := w8) rfl rfl rfl rfl (by simp [go_sem, sEv, sLook, nbeq, i64_w, -List.getD_eq_getElem?_getD, Try.underlying26]) ?_
        refine rw_on (c := (m.tw == n.tw)) rfl rfl rfl (by first | (rw [cT]; rfl) | simp [cT]) ?_
        refine rw_val (v := .slice A6 n.nums.length c6) (w' := w8) rfl rfl rfl rfl (by have eb_ := hk10; have e0_ := eb_.cellv (i := 3) (v := (.slice A6 n.nums.length c6 : Value)) rfl; simp [go_sem, sEv, sLook, nbeq, i64_w, -List.getD_eq_getElem?_getD, e0_, Try.underlying22]) ?_
        refine rw_on (c := (m.tw == n.tw)) rfl rfl rfl (by first | (rw [cT]; rfl) | simp [cT]) ?_
        refine rw_call rfl rfl rfl rfl (f := 43) (args := #[.slice A3 m.nums.length c3, .slice A6 n.nums.length c6]) (by simp [go_sem, sEv, sLook, nbeq, i64_w, -List.getD_eq_getElem?_getD]) (equal_int w8 A3 c3 A6 c6 m.nums n.nums (Kd.C_below hn3 (chain hb3 hb9)) hc3 (Kd.C_below hn6 (chain hb3 hb9)) hc6 (by first | assumption | omega) (by first | assumption | omega)) ?_
        rintro e_ w21 ⟨b19, rfl, hi_int, hb22⟩
        refine ⟨_, rfl, ?_⟩
        have hs_w21 := hb22.size
        refine rw_val (v := .bool b19) (w' := w21) rfl rfl rfl rfl (by first | (simp [go_sem, sEv, sLook, nbeq, i64_w, -List.getD_eq_getElem?_getD, cT]; done) | (rw [cT]; simp [go_sem, sEv, sLook, nbeq, i64_w, -List.getD_eq_getElem?_getD]; done) | (simp [go_sem, sEv, sLook, nbeq, i64_w, -List.getD_eq_getElem?_getD] <;> omega) | (simp [go_sem, sEv, sLook, nbeq, i64_w, -List.getD_eq_getElem?_getD]; intro h_; exact absurd (by omega) h_)) ?_
        refine rw_val (v := .bool b19) (w' := w21) rfl rfl rfl rfl rfl ?_
        rcases bcase b19 with c23 | c23
        · refine rw_off (c := b19) rfl rfl rfl (by first | (rw [c23]; rfl) | simp [c23]) rfl rfl ?_
          refine rw_off (c := b19) rfl rfl rfl (by first | (rw [c23]; rfl) | simp [c23]) rfl rfl ?_
          refine rw_off (c := b19) rfl rfl rfl (by first | (rw [c23]; rfl) | simp [c23]) rfl rfl ?_
          refine rw_off (c := b19) rfl rfl rfl (by first | (rw [c23]; rfl) | simp [c23]) rfl rfl ?_
          refine rw_off (c := b19) rfl rfl rfl (by first | (rw [c23]; rfl) | simp [c23]) rfl rfl ?_
          refine rw_val (v := .bool false) (w' := w21) rfl rfl rfl rfl (by first | (simp [go_sem, sEv, sLook, nbeq, i64_w, -List.getD_eq_getElem?_getD, c23]; done) | (rw [c23]; simp [go_sem, sEv, sLook, nbeq, i64_w, -List.getD_eq_getElem?_getD]; done) | (simp [go_sem, sEv, sLook, nbeq, i64_w, -List.getD_eq_getElem?_getD] <;> omega) | (simp [go_sem, sEv, sLook, nbeq, i64_w, -List.getD_eq_getElem?_getD]; intro h_; exact absurd (by omega) h_)) ?_
          refine rw_val (v := .bool false) (w' := w21) rfl rfl rfl rfl rfl ?_
          refine rw_off (c := false) rfl rfl rfl rfl rfl rfl ?_
          refine rw_off (c := false) rfl rfl rfl rfl rfl rfl ?_
          refine rw_off (c := false) rfl rfl rfl rfl rfl rfl ?_
          refine rw_off (c := false) rfl rfl rfl rfl rfl rfl ?_
          refine rw_off (c := false) rfl rfl rfl rfl rfl rfl ?_
          refine rw_val (v := .bool false) (w' := w21) rfl rfl rfl rfl (by simp [go_sem, sEv, sLook, nbeq, i64_w, -List.getD_eq_getElem?_getD]) ?_
          refine rw_val (v := .bool false) (w' := w21) rfl rfl rfl rfl rfl ?_
          refine rw_end ?_
          refine w_weaken (G' := [(4, .bool false)]) ⟨rfl, trivial⟩ ?_
          refine w_ret (post_ret1 rfl rfl ?_)
          refine ⟨_, rfl, ?_, (chain (chain hb3 hb9) hb22)⟩
          rw [same_iff]
          first | (simp_all; done) | (refine no_iff (fun h_ => ?_); obtain ⟨⟨q1, q2, q3⟩, q4, q5, q6⟩ := h_; first | omega | (simp_all; done))
        · refine rw_on (c := b19) rfl rfl rfl (by first | (rw [c23]; rfl) | simp [c23]) ?_
          refine rw_val (v := .pointer (some ⟨g1, 4, none⟩)) (w' := w21) rfl rfl rfl rfl (by simp [go_sem, sEv, sLook, nbeq, i64_w, -List.getD_eq_getElem?_getD, Try.underlying26]) ?_
          refine rw_on (c := b19) rfl rfl rfl (by first | (rw [c23]; rfl) | simp [c23]) ?_
          refine rw_val (v := .slice A4 m.ops.length c4) (w' := w21) rfl rfl rfl rfl (by have eb_ := ((hk4.on hb9).on hb22); have e0_ := eb_.cellv (i := 4) (v := (.slice A4 m.ops.length c4 : Value)) rfl; simp [go_sem, sEv, sLook, nbeq, i64_w, -List.getD_eq_getElem?_getD, e0_, Try.underlying23]) ?_
          refine rw_on (c := b19) rfl rfl rfl (by first | (rw [c23]; rfl) | simp [c23]) ?_
          refine rw_val (v := .pointer (some ⟨g7, 4, none⟩)) (w' := w21) rfl rfl rfl rfl (by simp [go_sem, sEv, sLook, nbeq, i64_w, -List.getD_eq_getElem?_getD, Try.underlying26]) ?_
          refine rw_on (c := b19) rfl rfl rfl (by first | (rw [c23]; rfl) | simp [c23]) ?_
          refine rw_val (v := .slice A7 n.ops.length c7) (w' := w21) rfl rfl rfl rfl (by have eb_ := (hk10.on hb22); have e0_ := eb_.cellv (i := 4) (v := (.slice A7 n.ops.length c7 : Value)) rfl; simp [go_sem, sEv, sLook, nbeq, i64_w, -List.getD_eq_getElem?_getD, e0_, Try.underlying23]) ?_
          refine rw_on (c := b19) rfl rfl rfl (by first | (rw [c23]; rfl) | simp [c23]) ?_
          refine rw_call rfl rfl rfl rfl (f := 44) (args := #[.slice A4 m.ops.length c4, .slice A7 n.ops.length c7]) (by simp [go_sem, sEv, sLook, nbeq, i64_w, -List.getD_eq_getElem?_getD]) (equal_op w21 A4 c4 A7 c7 m.ops n.ops (Kd.C_below hn4 (chain (chain hb3 hb9) hb22)) hc4 (Kd.C_below hn7 (chain (chain hb3 hb9) hb22)) hc7 (by first | assumption | omega) (by first | assumption | omega)) ?_
          rintro e_ w26 ⟨b24, rfl, hi_op, hb27⟩
          refine ⟨_, rfl, ?_⟩
          have hs_w26 := hb27.size
          refine rw_val (v := .bool b24) (w' := w26) rfl rfl rfl rfl (by first | (simp [go_sem, sEv, sLook, nbeq, i64_w, -List.getD_eq_getElem?_getD, c23]; done) | (rw [c23]; simp [go_sem, sEv, sLook, nbeq, i64_w, -List.getD_eq_getElem?_getD]; done) | (simp [go_sem, sEv, sLook, nbeq, i64_w, -List.getD_eq_getElem?_getD] <;> omega) | (simp [go_sem, sEv, sLook, nbeq, i64_w, -List.getD_eq_getElem?_getD]; intro h_; exact absurd (by omega) h_)) ?_
          refine rw_val (v := .bool b24) (w' := w26) rfl rfl rfl rfl rfl ?_
          rcases bcase b24 with c28 | c28
          · refine rw_off (c := b24) rfl rfl rfl (by first | (rw [c28]; rfl) | simp [c28]) rfl rfl ?_
            refine rw_off (c := b24) rfl rfl rfl (by first | (rw [c28]; rfl) | simp [c28]) rfl rfl ?_
            refine rw_off (c := b24) rfl rfl rfl (by first | (rw [c28]; rfl) | simp [c28]) rfl rfl ?_
            refine rw_off (c := b24) rfl rfl rfl (by first | (rw [c28]; rfl) | simp [c28]) rfl rfl ?_
            refine rw_off (c := b24) rfl rfl rfl (by first | (rw [c28]; rfl) | simp [c28]) rfl rfl ?_
            refine rw_val (v := .bool false) (w' := w26) rfl rfl rfl rfl (by first | (simp [go_sem, sEv, sLook, nbeq, i64_w, -List.getD_eq_getElem?_getD, c28]; done) | (rw [c28]; simp [go_sem, sEv, sLook, nbeq, i64_w, -List.getD_eq_getElem?_getD]; done) | (simp [go_sem, sEv, sLook, nbeq, i64_w, -List.getD_eq_getElem?_getD] <;> omega) | (simp [go_sem, sEv, sLook, nbeq, i64_w, -List.getD_eq_getElem?_getD]; intro h_; exact absurd (by omega) h_)) ?_
            refine rw_val (v := .bool false) (w' := w26) rfl rfl rfl rfl rfl ?_
            refine rw_end ?_
            refine w_weaken (G' := [(4, .bool false)]) ⟨rfl, trivial⟩ ?_
            refine w_ret (post_ret1 rfl rfl ?_)
            refine ⟨_, rfl, ?_, (chain (chain (chain hb3 hb9) hb22) hb27)⟩
            rw [same_iff]
            first | (simp_all; done) | (refine no_iff (fun h_ => ?_); obtain ⟨⟨q1, q2, q3⟩, q4, q5, q6⟩ := h_; first | omega | (simp_all; done))
          · refine rw_on (c := b24) rfl rfl rfl (by first | (rw [c28]; rfl) | simp [c28]) ?_
            refine rw_val (v := .pointer (some ⟨g1, 5, none⟩)) (w' := w26) rfl rfl rfl rfl (by simp [go_sem, sEv, sLook, nbeq, i64_w, -List.getD_eq_getElem?_getD, Try.underlying26]) ?_
            refine rw_on (c := b24) rfl rfl rfl (by first | (rw [c28]; rfl) | simp [c28]) ?_
            refine rw_val (v := .slice A5 m.ents.length c5) (w' := w26) rfl rfl rfl rfl (by have eb_ := (((hk4.on hb9).on hb22).on hb27); have e0_ := eb_.cellv (i := 5) (v := (.slice A5 m.ents.length c5 : Value)) rfl; simp [go_sem, sEv, sLook, nbeq, i64_w, -List.getD_eq_getElem?_getD, e0_, Try.underlying24]) ?_
            refine rw_on (c := b24) rfl rfl rfl (by first | (rw [c28]; rfl) | simp [c28]) ?_
            refine rw_val (v := .pointer (some ⟨g7, 5, none⟩)) (w' := w26) rfl rfl rfl rfl (by simp [go_sem, sEv, sLook, nbeq, i64_w, -List.getD_eq_getElem?_getD, Try.underlying26]) ?_
            refine rw_on (c := b24) rfl rfl rfl (by first | (rw [c28]; rfl) | simp [c28]) ?_
            refine rw_val (v := .slice A8 n.ents.length c8) (w' := w26) rfl rfl rfl rfl (by have eb_ := ((hk10.on hb22).on hb27); have e0_ := eb_.cellv (i := 5) (v := (.slice A8 n.ents.length c8 : Value)) rfl; simp [go_sem, sEv, sLook, nbeq, i64_w, -List.getD_eq_getElem?_getD, e0_, Try.underlying24]) ?_
            refine rw_on (c := b24) rfl rfl rfl (by first | (rw [c28]; rfl) | simp [c28]) ?_
            refine rw_call rfl rfl rfl rfl (f := 45) (args := #[.slice A5 m.ents.length c5, .slice A8 n.ents.length c8]) (by simp [go_sem, sEv, sLook, nbeq, i64_w, -List.getD_eq_getElem?_getD]) (equal_ent w26 A5 c5 A8 c8 m.ents n.ents (Kd.C_below hn5 (chain (chain (chain hb3 hb9) hb22) hb27)) hc5 (Kd.C_below hn8 (chain (chain (chain hb3 hb9) hb22) hb27)) hc8 (by first | assumption | omega) (by first | assumption | omega)) ?_
            rintro e_ w31 ⟨b29, rfl, hi_ent, hb32⟩
            refine ⟨_, rfl, ?_⟩
            have hs_w31 := hb32.size
            refine rw_val (v := .bool b29) (w' := w31) rfl rfl rfl rfl (by first | (simp [go_sem, sEv, sLook, nbeq, i64_w, -List.getD_eq_getElem?_getD, c28]; done) | (rw [c28]; simp [go_sem, sEv, sLook, nbeq, i64_w, -List.getD_eq_getElem?_getD]; done) | (simp [go_sem, sEv, sLook, nbeq, i64_w, -List.getD_eq_getElem?_getD] <;> omega) | (simp [go_sem, sEv, sLook, nbeq, i64_w, -List.getD_eq_getElem?_getD]; intro h_; exact absurd (by omega) h_)) ?_
            refine rw_val (v := .bool b29) (w' := w31) rfl rfl rfl rfl rfl ?_
            refine rw_end ?_
            refine w_weaken (G' := [(4, .bool b29)]) ⟨rfl, trivial⟩ ?_
            refine w_ret (post_ret1 rfl rfl ?_)
            refine ⟨_, rfl, ?_, (chain (chain (chain (chain hb3 hb9) hb22) hb27) hb32)⟩
            rw [same_iff]
            first | (simp_all; done) | (refine no_iff (fun h_ => ?_); obtain ⟨⟨q1, q2, q3⟩, q4, q5, q6⟩ := h_; first | omega | (simp_all; done))
set_option maxHeartbeats 4000000 in
theorem large_calls (w : World) (n : NT) (A3 : Option Addr) (c3 : Nat) (A4 : Option Addr) (c4 : Nat) (A5 : Option Addr) (c5 : Nat) (hn3 : (Kd.int .i64).C w A3 n.nums.length n.nums) (hc3 : n.nums.length ≤ c3) (hn4 : kOp.C w A4 n.ops.length n.ops) (hc4 : n.ops.length ≤ c4) (hn5 : kEntry.C w A5 n.ents.length n.ents) (hc5 : n.ents.length ≤ c5) (hk3 : n.nums.length ≤ 140737488355328) (hk4 : n.ops.length ≤ 140737488355328) (hk5 : n.ents.length ≤ 140737488355328) :
    Calls Try.prog 10 #[.agg #[.int .i64 n.kind, .int .i64 n.fr, .int .i64 n.tw, .slice A3 n.nums.length c3, .slice A4 n.ops.length c4, .slice A5 n.ents.length c5]] w fun e w' => e = .returned (.bool (decide (500 < n.nums.length + n.ops.length + n.ents.length))) ∧ Below w.heap.size w w' := by
  refine calls_flow Try.func10 rfl 15 rfl (Nat.le_of_ble_eq_true rfl) [(0, .agg #[.int .i64 n.kind, .int .i64 n.fr, .int .i64 n.tw, .slice A3 n.nums.length c3, .slice A4 n.ops.length c4, .slice A5 n.ents.length c5])] ?_ ?_
  · intro t v h; exact args_look rfl t v h
  refine w_seq ?_
  refine w_region ?_
  refine rw_new (cs := #[.int .i64 n.kind, .int .i64 n.fr, .int .i64 n.tw, .slice A3 n.nums.length c3, .slice A4 n.ops.length c4, .slice A5 n.ents.length c5]) (t := 26) (fun g => .pointer (some ⟨g, 0, none⟩)) rfl rfl rfl rfl (by simp [go_sem, sEv, sLook, nbeq, i64_w, -List.getD_eq_getElem?_getD]) ?_
  intro g1 w2 hg6 hz5 hb3 hk4
  have hs_w2 := hb3.size
  refine rw_val (v := .bool false) (w' := w2) rfl rfl rfl rfl rfl ?_
  refine rw_end ?_
  refine w_seq ?_
  refine w_region ?_
  refine rw_val (v := .pointer (some ⟨g1, 3, none⟩)) (w' := w2) rfl rfl rfl rfl (by simp [go_sem, sEv, sLook, nbeq, i64_w, -List.getD_eq_getElem?_getD, Try.underlying26]) ?_
  refine rw_val (v := .slice A3 n.nums.length c3) (w' := w2) rfl rfl rfl rfl (by have eb_ := hk4; have e0_ := eb_.cellv (i := 3) (v := (.slice A3 n.nums.length c3 : Value)) rfl; simp [go_sem, sEv, sLook, nbeq, i64_w, -List.getD_eq_getElem?_getD, e0_, Try.underlying22]) ?_
  refine rw_val (v := .int .i64 ((n.nums.length : Nat) : Int)) (w' := w2) rfl rfl rfl rfl (by simp [go_sem, sEv, sLook, nbeq, i64_w, -List.getD_eq_getElem?_getD]) ?_
  refine rw_val (v := .pointer (some ⟨g1, 4, none⟩)) (w' := w2) rfl rfl rfl rfl (by simp [go_sem, sEv, sLook, nbeq, i64_w, -List.getD_eq_getElem?_getD, Try.underlying26]) ?_
  refine rw_val (v := .slice A4 n.ops.length c4) (w' := w2) rfl rfl rfl rfl (by have eb_ := hk4; have e0_ := eb_.cellv (i := 4) (v := (.slice A4 n.ops.length c4 : Value)) rfl; simp [go_sem, sEv, sLook, nbeq, i64_w, -List.getD_eq_getElem?_getD, e0_, Try.underlying23]) ?_
  refine rw_val (v := .int .i64 ((n.ops.length : Nat) : Int)) (w' := w2) rfl rfl rfl rfl (by simp [go_sem, sEv, sLook, nbeq, i64_w, -List.getD_eq_getElem?_getD]) ?_
  refine rw_val (v := .int .i64 ((n.nums.length + n.ops.length : Nat) : Int)) (w' := w2) rfl rfl rfl rfl (by simp [go_sem, sEv, sLook, nbeq, i64_w, -List.getD_eq_getElem?_getD]; exact wrap_id (by omega) (by omega)) ?_
  refine rw_val (v := .pointer (some ⟨g1, 5, none⟩)) (w' := w2) rfl rfl rfl rfl (by simp [go_sem, sEv, sLook, nbeq, i64_w, -List.getD_eq_getElem?_getD, Try.underlying26]) ?_
  refine rw_val (v := .slice A5 n.ents.length c5) (w' := w2) rfl rfl rfl rfl (by have eb_ := hk4; have e0_ := eb_.cellv (i := 5) (v := (.slice A5 n.ents.length c5 : Value)) rfl; simp [go_sem, sEv, sLook, nbeq, i64_w, -List.getD_eq_getElem?_getD, e0_, Try.underlying24]) ?_
  refine rw_val (v := .int .i64 ((n.ents.length : Nat) : Int)) (w' := w2) rfl rfl rfl rfl (by simp [go_sem, sEv, sLook, nbeq, i64_w, -List.getD_eq_getElem?_getD]) ?_
  refine rw_val (v := .int .i64 ((n.nums.length + n.ops.length + n.ents.length : Nat) : Int)) (w' := w2) rfl rfl rfl rfl (by simp [go_sem, sEv, sLook, nbeq, i64_w, -List.getD_eq_getElem?_getD]; exact wrap_id (by omega) (by omega)) ?_
  refine rw_val (v := .bool (decide (500 < ((n.nums.length + n.ops.length + n.ents.length : Nat) : Int)))) (w' := w2) rfl rfl rfl rfl (by simp [go_sem, sEv, sLook, nbeq, i64_w, -List.getD_eq_getElem?_getD]) ?_
  refine rw_val (v := .bool (decide (500 < ((n.nums.length + n.ops.length + n.ents.length : Nat) : Int)))) (w' := w2) rfl rfl rfl rfl rfl ?_
  refine rw_end ?_
  refine w_weaken (G' := [(2, .bool (decide (500 < ((n.nums.length + n.ops.length + n.ents.length : Nat) : Int))))]) ⟨rfl, trivial⟩ ?_
  refine w_ret (post_ret1 rfl rfl ?_)
  exact ⟨by rw [show (decide (500 < ((n.nums.length + n.ops.length + n.ents.length : Nat) : Int))) = (decide (500 < n.nums.length + n.ops.length + n.ents.length)) by rw [Bool.eq_iff_iff, decide_eq_true_eq, decide_eq_true_eq]; omega], hb3⟩
end Go.Proofs.Ytbbhdohjhipalaa.Ce
end
section
namespace Go.Proofs.Ytbbhdohjhipalaa.Ce
open Go.RowKit Go.Proofs.YtbbhdohjhipalaaW.PrintWords Go.Proofs.YtbbhdohjhipalaaW.PrintLast Go.Proofs.YtbbhdohjhipalaaW.PrintMore
open Go.Proofs.Ytbbhdohjhipalaa.Flow
set_option linter.unusedVariables false
set_option linter.unusedSimpArgs false
set_option maxHeartbeats 4000000 in
theorem rsame_calls (w : World) (m n : NT) (A3 : Option Addr) (c3 : Nat) (A4 : Option Addr) (c4 : Nat) (A5 : Option Addr) (c5 : Nat) (hn3 : (Kd.int .i64).C w A3 m.nums.length m.nums) (hc3 : m.nums.length ≤ c3) (hk3 : m.nums.length ≤ 140737488355328) (hn4 : kOp.C w A4 m.ops.length m.ops) (hc4 : m.ops.length ≤ c4) (hk4 : m.ops.length ≤ 140737488355328) (hn5 : kEntry.C w A5 m.ents.length m.ents) (hc5 : m.ents.length ≤ c5) (hk5 : m.ents.length ≤ 140737488355328) (A6 : Option Addr) (c6 : Nat) (A7 : Option Addr) (c7 : Nat) (A8 : Option Addr) (c8 : Nat) (hn6 : (Kd.int .i64).C w A6 n.nums.length n.nums) (hc6 : n.nums.length ≤ c6) (hk6 : n.nums.length ≤ 140737488355328) (hn7 : kOp.C w A7 n.ops.length n.ops) (hc7 : n.ops.length ≤ c7) (hk7 : n.ops.length ≤ 140737488355328) (hn8 : kEntry.C w A8 n.ents.length n.ents) (hc8 : n.ents.length ≤ c8) (hk8 : n.ents.length ≤ 140737488355328) :
    Calls Try.prog 17 #[.agg #[.int .i64 m.kind, .int .i64 m.fr, .int .i64 m.tw, .slice A3 m.nums.length c3, .slice A4 m.ops.length c4, .slice A5 m.ents.length c5], .agg #[.int .i64 n.kind, .int .i64 n.fr, .int .i64 n.tw, .slice A6 n.nums.length c6, .slice A7 n.ops.length c7, .slice A8 n.ents.length c8]] w fun e w' => ∃ bb, e = .returned (.bool bb) ∧ (bb = true ↔ m = n) ∧ Below w.heap.size w w' := by
  refine calls_flow Try.func17 rfl 108 rfl (Nat.le_of_ble_eq_true rfl) [(0, .agg #[.int .i64 m.kind, .int .i64 m.fr, .int .i64 m.tw, .slice A3 m.nums.length c3, .slice A4 m.ops.length c4, .slice A5 m.ents.length c5]), (1, .agg #[.int .i64 n.kind, .int .i64 n.fr, .int .i64 n.tw, .slice A6 n.nums.length c6, .slice A7 n.ops.length c7, .slice A8 n.ents.length c8])] ?_ ?_
  · intro t v h; exact args_look rfl t v h
  refine w_seq ?_
  refine w_region ?_
  refine rw_new (cs := #[.int .i64 m.kind, .int .i64 m.fr, .int .i64 m.tw, .slice A3 m.nums.length c3, .slice A4 m.ops.length c4, .slice A5 m.ents.length c5]) (t := 26) (fun g => .pointer (some ⟨g, 0, none⟩)) rfl rfl rfl rfl (by simp [go_sem, sEv, sLook, nbeq, i64_w, -List.getD_eq_getElem?_getD]) ?_
  intro g1 w2 hg6 hz5 hb3 hk4
  have hs_w2 := hb3.size
  refine rw_new (cs := #[.int .i64 n.kind, .int .i64 n.fr, .int .i64 n.tw, .slice A6 n.nums.length c6, .slice A7 n.ops.length c7, .slice A8 n.ents.length c8]) (t := 26) (fun g => .pointer (some ⟨g, 0, none⟩)) rfl rfl rfl rfl (by simp [go_sem, sEv, sLook, nbeq, i64_w, -List.getD_eq_getElem?_getD]) ?_
  intro g7 w8 hg12 hz11 hb9 hk10
  have hs_w8 := hb9.size
  refine rw_val (v := .bool false) (w' := w8) rfl rfl rfl rfl rfl ?_
  refine rw_end ?_
  refine w_seq ?_
  refine w_seq ?_
  refine w_region ?_
  refine rw_val (v := .pointer (some ⟨g1, 0, none⟩)) (w' := w8) rfl rfl rfl rfl (by simp [go_sem, sEv, sLook, nbeq, i64_w, -List.getD_eq_getElem?_getD, Try.underlying26]) ?_
  refine rw_val (v := .int .i64 m.kind) (w' := w8) rfl rfl rfl rfl (by have eb_ := (hk4.on hb9); have e0_ := eb_.cellv (i := 0) (v := (.int .i64 m.kind : Value)) rfl; simp [go_sem, sEv, sLook, nbeq, i64_w, -List.getD_eq_getElem?_getD, e0_]) ?_
  refine rw_val (v := .pointer (some ⟨g7, 0, none⟩)) (w' := w8) rfl rfl rfl rfl (by simp [go_sem, sEv, sLook, nbeq, i64_w, -List.getD_eq_getElem?_getD, Try.underlying26]) ?_
  refine rw_val (v := .int .i64 n.kind) (w' := w8) rfl rfl rfl rfl (by have eb_ := hk10; have e0_ := eb_.cellv (i := 0) (v := (.int .i64 n.kind : Value)) rfl; simp [go_sem, sEv, sLook, nbeq, i64_w, -List.getD_eq_getElem?_getD, e0_]) ?_
  refine rw_val (v := .bool (m.kind != n.kind)) (w' := w8) rfl rfl rfl rfl (by simp [go_sem, sEv, sLook, nbeq, i64_w, -List.getD_eq_getElem?_getD]) ?_
  refine rw_val (v := .bool (m.kind != n.kind)) (w' := w8) rfl rfl rfl rfl rfl ?_
  rcases bcase (m.kind != n.kind) with c13 | c13
  · have l14 : m.kind = n.kind := by simpa using c13
    refine rw_on (c := (m.kind != n.kind)) rfl rfl rfl (by first | (rw [c13]; rfl) | simp [c13]) ?_
    refine rw_val (v := .pointer (some ⟨g1, 1, none⟩)) (w' := w8) rfl rfl rfl rfl (by simp [go_sem, sEv, sLook, nbeq, i64_w, -List.getD_eq_getElem?_getD, Try.underlying26]) ?_
    refine rw_on (c := (m.kind != n.kind)) rfl rfl rfl (by first | (rw [c13]; rfl) | simp [c13]) ?_
    refine rw_val (v := .int .i64 m.fr) (w' := w8) rfl rfl rfl rfl (by have eb_ := (hk4.on hb9); have e0_ := eb_.cellv (i := 1) (v := (.int .i64 m.fr : Value)) rfl; simp [go_sem, sEv, sLook, nbeq, i64_w, -List.getD_eq_getElem?_getD, e0_]) ?_
    refine rw_on (c := (m.kind != n.kind)) rfl rfl rfl (by first | (rw [c13]; rfl) | simp [c13]) ?_
    refine rw_val (v := .pointer (some ⟨g7, 1, none⟩)) (w' := w8) rfl rfl rfl rfl (by simp [go_sem, sEv, sLook, nbeq, i64_w, -List.getD_eq_getElem?_getD, Try.underlying26]) ?_
    refine rw_on (c := (m.kind != n.kind)) rfl rfl rfl (by first | (rw [c13]; rfl) | simp [c13]) ?_
    refine rw_val (v := .int .i64 n.fr) (w' := w8) rfl rfl rfl rfl (by have eb_ := hk10; have e0_ := eb_.cellv (i := 1) (v := (.int .i64 n.fr : Value)) rfl; simp [go_sem, sEv, sLook, nbeq, i64_w, -List.getD_eq_getElem?_getD, e0_]) ?_
    refine rw_on (c := (m.kind != n.kind)) rfl rfl rfl (by first | (rw [c13]; rfl) | simp [c13]) ?_
    refine rw_val (v := .bool (m.fr != n.fr)) (w' := w8) rfl rfl rfl rfl (by simp [go_sem, sEv, sLook, nbeq, i64_w, -List.getD_eq_getElem?_getD]) ?_
    refine rw_val (v := .bool (m.fr != n.fr)) (w' := w8) rfl rfl rfl rfl (by first | (simp [go_sem, sEv, sLook, nbeq, i64_w, -List.getD_eq_getElem?_getD, c13]; done) | (rw [c13]; simp [go_sem, sEv, sLook, nbeq, i64_w, -List.getD_eq_getElem?_getD]; done) | (simp [go_sem, sEv, sLook, nbeq, i64_w, -List.getD_eq_getElem?_getD] <;> omega) | (simp [go_sem, sEv, sLook, nbeq, i64_w, -List.getD_eq_getElem?_getD]; intro h_; exact absurd (by omega) h_)) ?_
    refine rw_val (v := .bool (m.fr != n.fr)) (w' := w8) rfl rfl rfl rfl rfl ?_
    rcases bcase (m.fr != n.fr) with c15 | c15
    · have l16 : m.fr = n.fr := by simpa using c15
      refine rw_on (c := (m.fr != n.fr)) rfl rfl rfl (by first | (rw [c15]; rfl) | simp [c15]) ?_
      refine rw_val (v := .pointer (some ⟨g1, 2, none⟩)) (w' := w8) rfl rfl rfl rfl (by simp [go_sem, sEv, sLook, nbeq, i64_w, -List.getD_eq_getElem?_getD, Try.underlying26]) ?_
      refine rw_on (c := (m.fr != n.fr)) rfl rfl rfl (by first | (rw [c15]; rfl) | simp [c15]) ?_
      refine rw_val (v := .int .i64 m.tw) (w' := w8) rfl rfl rfl rfl (by have eb_ := (hk4.on hb9); have e0_ := eb_.cellv (i := 2) (v := (.int .i64 m.tw : Value)) rfl; simp [go_sem, sEv, sLook, nbeq, i64_w, -List.getD_eq_getElem?_getD, e0_]) ?_
      refine rw_on (c := (m.fr != n.fr)) rfl rfl rfl (by first | (rw [c15]; rfl) | simp [c15]) ?_
      refine rw_val (v := .pointer (some ⟨g7, 2, none⟩)) (w' := w8) rfl rfl rfl rfl (by simp [go_sem, sEv, sLook, nbeq, i64_w, -List.getD_eq_getElem?_getD, Try.underlying26]) ?_
      refine rw_on (c := (m.fr != n.fr)) rfl rfl rfl (by first | (rw [c15]; rfl) | simp [c15]) ?_
      refine rw_val (v := .int .i64 n.tw) (w' := w8) rfl rfl rfl rfl (by have eb_ := hk10; have e0_ := eb_.cellv (i := 2) (v := (.int .i64 n.tw : Value)) rfl; simp [go_sem, sEv, sLook, nbeq, i64_w, -List.getD_eq_getElem?_getD, e0_]) ?_
      refine rw_on (c := (m.fr != n.fr)) rfl rfl rfl (by first | (rw [c15]; rfl) | simp [c15]) ?_
      refine rw_val (v := .bool (m.tw != n.tw)) (w' := w8) rfl rfl rfl rfl (by simp [go_sem, sEv, sLook, nbeq, i64_w, -List.getD_eq_getElem?_getD]) ?_
      refine rw_val (v := .bool (m.tw != n.tw)) (w' := w8) rfl rfl rfl rfl (by first | (simp [go_sem, sEv, sLook, nbeq, i64_w, -List.getD_eq_getElem?_getD, c15]; done) | (rw [c15]; simp [go_sem, sEv, sLook, nbeq, i64_w, -List.getD_eq_getElem?_getD]; done) | (simp [go_sem, sEv, sLook, nbeq, i64_w, -List.getD_eq_getElem?_getD] <;> omega) | (simp [go_sem, sEv, sLook, nbeq, i64_w, -List.getD_eq_getElem?_getD]; intro h_; exact absurd (by omega) h_)) ?_
      refine rw_val (v := .bool (m.tw != n.tw)) (w' := w8) rfl rfl rfl rfl rfl ?_
      rcases bcase (m.tw != n.tw) with c17 | c17
      · have l18 : m.tw = n.tw := by simpa using c17
        refine rw_on (c := (m.tw != n.tw)) rfl rfl rfl (by first | (rw [c17]; rfl) | simp [c17]) ?_
        refine rw_val (v := .pointer (some ⟨g1, 3, none⟩)) (w' := w8) rfl rfl rfl rfl (by simp [go_sem, sEv, sLook, nbeq, i64_w, -List.getD_eq_getElem?_getD, Try.underlying26]) ?_
        refine rw_on (c := (m.tw != n.tw)) rfl rfl rfl (by first | (rw [c17]; rfl) | simp [c17]) ?_
        refine rw_val (v := .slice A3 m.nums.length c3) (w' := w8) rfl rfl rfl rfl (by have eb_ := (hk4.on hb9); have e0_ := eb_.cellv (i := 3) (v := (.slice A3 m.nums.length c3 : Value)) rfl; simp [go_sem, sEv, sLook, nbeq, i64_w, -List.getD_eq_getElem?_getD, e0_, Try.underlying22]) ?_
        refine rw_on (c := (m.tw != n.tw)) rfl rfl rfl (by first | (rw [c17]; rfl) | simp [c17]) ?_
        refine rw_val (v := .int .i64 ((m.nums.length : Nat) : Int)) (w' := w8) rfl rfl rfl rfl (by simp [go_sem, sEv, sLook, nbeq, i64_w, -List.getD_eq_getElem?_getD]) ?_
        refine rw_on (c := (m.tw != n.tw)) rfl rfl rfl (by first | (rw [c17]; rfl) | simp [c17]) ?_
        refine rw_val (v := .pointer (some ⟨g7, 3, none⟩)) (w' := w8) rfl rfl rfl rfl (by simp [go_sem, sEv, sLook, nbeq, i64_w, -List.getD_eq_getElem?_getD, Try.underlying26]) ?_
        refine rw_on (c := (m.tw != n.tw)) rfl rfl rfl (by first | (rw [c17]; rfl) | simp [c17]) ?_
        refine rw_val (v := .slice A6 n.nums.length c6) (w' := w8) rfl rfl rfl rfl (by have eb_ := hk10; have e0_ := eb_.cellv (i := 3) (v := (.slice A6 n.nums.length c6 : Value)) rfl; simp [go_sem, sEv, sLook, nbeq, i64_w, -List.getD_eq_getElem?_getD, e0_, Try.underlying22]) ?_
        refine rw_on (c := (m.tw != n.tw)) rfl rfl rfl (by first | (rw [c17]; rfl) | simp [c17]) ?_
        refine rw_val (v := .int .i64 ((n.nums.length : Nat) : Int)) (w' := w8) rfl rfl rfl rfl (by simp [go_sem, sEv, sLook, nbeq, i64_w, -List.getD_eq_getElem?_getD]) ?_
        refine rw_on (c := (m.tw != n.tw)) rfl rfl rfl (by first | (rw [c17]; rfl) | simp [c17]) ?_
        refine rw_val (v := .bool (((m.nums.length : Nat) : Int) != ((n.nums.length : Nat) : Int))) (w' := w8) rfl rfl rfl rfl (by simp [go_sem, sEv, sLook, nbeq, i64_w, -List.getD_eq_getElem?_getD]) ?_
        refine rw_val (v := .bool (((m.nums.length : Nat) : Int) != ((n.nums.length : Nat) : Int))) (w' := w8) rfl rfl rfl rfl (by first | (simp [go_sem, sEv, sLook, nbeq, i64_w, -List.getD_eq_getElem?_getD, c17]; done) | (rw [c17]; simp [go_sem, sEv, sLook, nbeq, i64_w, -List.getD_eq_getElem?_getD]; done) | (simp [go_sem, sEv, sLook, nbeq, i64_w, -List.getD_eq_getElem?_getD] <;> omega) | (simp [go_sem, sEv, sLook, nbeq, i64_w, -List.getD_eq_getElem?_getD]; intro h_; exact absurd (by omega) h_)) ?_
        refine rw_val (v := .bool (((m.nums.length : Nat) : Int) != ((n.nums.length : Nat) : Int))) (w' := w8) rfl rfl rfl rfl rfl ?_
        rcases bcase (((m.nums.length : Nat) : Int) != ((n.nums.length : Nat) : Int)) with c19 | c19
        · have l20 : ((m.nums.length : Nat) : Int) = ((n.nums.length : Nat) : Int) := by simpa using c19
          refine rw_on (c := (((m.nums.length : Nat) : Int) != ((n.nums.length : Nat) : Int))) rfl rfl rfl (by first | (rw [c19]; rfl) | simp [c19]) ?_
          refine rw_val (v := .pointer (some ⟨g1, 4, none⟩)) (w' := w8) rfl rfl rfl rfl (by simp [go_sem, sEv, sLook, nbeq, i64_w, -List.getD_eq_getElem?_getD, Try.underlying26]) ?_
          refine rw_on (c := (((m.nums.length : Nat) : Int) != ((n.nums.length : Nat) : Int))) rfl rfl rfl (by first | (rw [c19]; rfl) | simp [c19]) ?_
          refine rw_val (v := .slice A4 m.ops.length c4) (w' := w8) rfl rfl rfl rfl (by have eb_ := (hk4.on hb9); have e0_ := eb_.cellv (i := 4) (v := (.slice A4 m.ops.length c4 : Value)) rfl; simp [go_sem, sEv, sLook, nbeq, i64_w, -List.getD_eq_getElem?_getD, e0_, Try.underlying23]) ?_
          refine rw_on (c := (((m.nums.length : Nat) : Int) != ((n.nums.length : Nat) : Int))) rfl rfl rfl (by first | (rw [c19]; rfl) | simp [c19]) ?_
          refine rw_val (v := .int .i64 ((m.ops.length : Nat) : Int)) (w' := w8) rfl rfl rfl rfl (by simp [go_sem, sEv, sLook, nbeq, i64_w, -List.getD_eq_getElem?_getD]) ?_
          refine rw_on (c := (((m.nums.length : Nat) : Int) != ((n.nums.length : Nat) : Int))) rfl rfl rfl (by first | (rw [c19]; rfl) | simp [c19]) ?_
          refine rw_val (v := .pointer (some ⟨g7, 4, none⟩)) (w' := w8) rfl rfl rfl rfl (by simp [go_sem, sEv, sLook, nbeq, i64_w, -List.getD_eq_getElem?_getD, Try.underlying26]) ?_
          refine rw_on (c := (((m.nums.length : Nat) : Int) != ((n.nums.length : Nat) : Int))) rfl rfl rfl (by first | (rw [c19]; rfl) | simp [c19]) ?_
          refine rw_val (v := .slice A7 n.ops.length c7) (w' := w8) rfl rfl rfl rfl (by have eb_ := hk10; have e0_ := eb_.cellv (i := 4) (v := (.slice A7 n.ops.length c7 : Value)) rfl; simp [go_sem, sEv, sLook, nbeq, i64_w, -List.getD_eq_getElem?_getD, e0_, Try.underlying23]) ?_
          refine rw_on (c := (((m.nums.length : Nat) : Int) != ((n.nums.length : Nat) : Int))) rfl rfl rfl (by first | (rw [c19]; rfl) | simp [c19]) ?_
          refine rw_val (v := .int .i64 ((n.ops.length : Nat) : Int)) (w' := w8) rfl rfl rfl rfl (by simp [go_sem, sEv, sLook, nbeq, i64_w, -List.getD_eq_getElem?_getD]) ?_
          refine rw_on (c := (((m.nums.length : Nat) : Int) != ((n.nums.length : Nat) : Int))) rfl rfl rfl (by first | (rw [c19]; rfl) | simp [c19]) ?_
          refine rw_val (v := .bool (((m.ops.length : Nat) : Int) != ((n.ops.length : Nat) : Int))) (w' := w8) rfl rfl rfl rfl (by simp [go_sem, sEv, sLook, nbeq, i64_w, -List.getD_eq_getElem?_getD]) ?_
          refine rw_val (v := .bool (((m.ops.length : Nat) : Int) != ((n.ops.length : Nat) : Int))) (w' := w8) rfl rfl rfl rfl (by first | (simp [go_sem, sEv, sLook, nbeq, i64_w, -List.getD_eq_getElem?_getD, c19]; done) | (rw [c19]; simp [go_sem, sEv, sLook, nbeq, i64_w, -List.getD_eq_getElem?_getD]; done) | (simp [go_sem, sEv, sLook, nbeq, i64_w, -List.getD_eq_getElem?_getD] <;> omega) | (simp [go_sem, sEv, sLook, nbeq, i64_w, -List.getD_eq_getElem?_getD]; intro h_; exact absurd (by omega) h_)) ?_
          refine rw_val (v := .bool (((m.ops.length : Nat) : Int) != ((n.ops.length : Nat) : Int))) (w' := w8) rfl rfl rfl rfl rfl ?_
          rcases bcase (((m.ops.length : Nat) : Int) != ((n.ops.length : Nat) : Int)) with c21 | c21
          · have l22 : ((m.ops.length : Nat) : Int) = ((n.ops.length : Nat) : Int) := by simpa using c21
            refine rw_on (c := (((m.ops.length : Nat) : Int) != ((n.ops.length : Nat) : Int))) rfl rfl rfl (by first | (rw [c21]; rfl) | simp [c21]) ?_
            refine rw_val (v := .pointer (some ⟨g1, 5, none⟩)) (w' := w8) rfl rfl rfl rfl (by simp [go_sem, sEv, sLook, nbeq, i64_w, -List.getD_eq_getElem?_getD, Try.underlying26]) ?_
            refine rw_on (c := (((m.ops.length : Nat) : Int) != ((n.ops.length : Nat) : Int))) rfl rfl rfl (by first | (rw [c21]; rfl) | simp [c21]) ?_
            refine rw_val (v := .slice A5 m.ents.length c5) (w' := w8) rfl rfl rfl rfl (by have eb_ := (hk4.on hb9); have e0_ := eb_.cellv (i := 5) (v := (.slice A5 m.ents.length c5 : Value)) rfl; simp [go_sem, sEv, sLook, nbeq, i64_w, -List.getD_eq_getElem?_getD, e0_, Try.underlying24]) ?_
            refine rw_on (c := (((m.ops.length : Nat) : Int) != ((n.ops.length : Nat) : Int))) rfl rfl rfl (by first | (rw [c21]; rfl) | simp [c21]) ?_
            refine rw_val (v := .int .i64 ((m.ents.length : Nat) : Int)) (w' := w8) rfl rfl rfl rfl (by simp [go_sem, sEv, sLook, nbeq, i64_w, -List.getD_eq_getElem?_getD]) ?_
            refine rw_on (c := (((m.ops.length : Nat) : Int) != ((n.ops.length : Nat) : Int))) rfl rfl rfl (by first | (rw [c21]; rfl) | simp [c21]) ?_
            refine rw_val (v := .pointer (some ⟨g7, 5, none⟩)) (w' := w8) rfl rfl rfl rfl (by simp [go_sem, sEv, sLook, nbeq, i64_w, -List.getD_eq_getElem?_getD, Try.underlying26]) ?_
            refine rw_on (c := (((m.ops.length : Nat) : Int) != ((n.ops.length : Nat) : Int))) rfl rfl rfl (by first | (rw [c21]; rfl) | simp [c21]) ?_
            refine rw_val (v := .slice A8 n.ents.length c8) (w' := w8) rfl rfl rfl rfl (by have eb_ := hk10; have e0_ := eb_.cellv (i := 5) (v := (.slice A8 n.ents.length c8 : Value)) rfl; simp [go_sem, sEv, sLook, nbeq, i64_w, -List.getD_eq_getElem?_getD, e0_, Try.underlying24]) ?_
            refine rw_on (c := (((m.ops.length : Nat) : Int) != ((n.ops.length : Nat) : Int))) rfl rfl rfl (by first | (rw [c21]; rfl) | simp [c21]) ?_
            refine rw_val (v := .int .i64 ((n.ents.length : Nat) : Int)) (w' := w8) rfl rfl rfl rfl (by simp [go_sem, sEv, sLook, nbeq, i64_w, -List.getD_eq_getElem?_getD]) ?_
            refine rw_on (c := (((m.ops.length : Nat) : Int) != ((n.ops.length : Nat) : Int))) rfl rfl rfl (by first | (rw [c21]; rfl) | simp [c21]) ?_
            refine rw_val (v := .bool (((m.ents.length : Nat) : Int) != ((n.ents.length : Nat) : Int))) (w' := w8) rfl rfl rfl rfl (by simp [go_sem, sEv, sLook, nbeq, i64_w, -List.getD_eq_getElem?_getD]) ?_
            refine rw_val (v := .bool (((m.ents.length : Nat) : Int) != ((n.ents.length : Nat) : Int))) (w' := w8) rfl rfl rfl rfl (by first | (simp [go_sem, sEv, sLook, nbeq, i64_w, -List.getD_eq_getElem?_getD, c21]; done) | (rw [c21]; simp [go_sem, sEv, sLook, nbeq, i64_w, -List.getD_eq_getElem?_getD]; done) | (simp [go_sem, sEv, sLook, nbeq, i64_w, -List.getD_eq_getElem?_getD] <;> omega) | (simp [go_sem, sEv, sLook, nbeq, i64_w, -List.getD_eq_getElem?_getD]; intro h_; exact absurd (by omega) h_)) ?_
            refine rw_end ?_
            refine w_weaken (G' := [(2, .pointer (some ⟨g1, 0, none⟩)), (3, .pointer (some ⟨g7, 0, none⟩)), (4, .bool false), (53, .bool (((m.ents.length : Nat) : Int) != ((n.ents.length : Nat) : Int)))]) ⟨rfl, rfl, rfl, rfl, trivial⟩ ?_
            refine w_cond rfl rfl (fun c23 => ?_) (fun c23 => ?_)
            · have l24 : ¬ ((m.ents.length : Nat) : Int) = ((n.ents.length : Nat) : Int) := by simpa using c23
              refine w_seq ?_
              refine w_region ?_
              refine rw_val (v := .bool false) (w' := w8) rfl rfl rfl rfl rfl ?_
              refine rw_end ?_
              refine w_ret (post_ret1 rfl rfl ?_)
              exact ⟨_, rfl, no_iff (fun h_ => by obtain ⟨⟨q1, q2, q3⟩, q4, q5, q6⟩ := (same_iff m n).1 h_; have q7 := congrArg List.length q4; have q8 := congrArg List.length q5; have q9 := congrArg List.length q6; omega), (chain hb3 hb9)⟩
            · have l25 : ((m.ents.length : Nat) : Int) = ((n.ents.length : Nat) : Int) := by simpa using c23
              refine w_skip ?_
              refine w_seq ?_
              refine w_seq ?_
              refine w_region ?_
              refine rw_val (v := .int .i64 0) (w' := w8) rfl rfl rfl rfl rfl ?_
              refine rw_end ?_
              refine w_block ?_
              refine w_loop (fun m_ G W_ => ∃ (j0 : Nat), j0 + m_ = m.nums.length ∧ n.nums.length = m.nums.length ∧ Below w.heap.size w W_ ∧ (Blk W_ g1 26 #[.int .i64 m.kind, .int .i64 m.fr, .int .i64 m.tw, .slice A3 m.nums.length c3, .slice A4 m.ops.length c4, .slice A5 m.ents.length c5]) ∧ (Blk W_ g7 26 #[.int .i64 n.kind, .int .i64 n.fr, .int .i64 n.tw, .slice A6 n.nums.length c6, .slice A7 n.ops.length c7, .slice A8 n.ents.length c8]) ∧ (m.nums.take j0 = n.nums.take j0) ∧ G = [(2, .pointer (some ⟨g1, 0, none⟩)), (3, .pointer (some ⟨g7, 0, none⟩)), (5, .int .i64 ((j0 : Nat) : Int))]) m.nums.length [(2, .pointer (some ⟨g1, 0, none⟩)), (3, .pointer (some ⟨g7, 0, none⟩)), (5, .int .i64 0)] ⟨0, by omega, by omega, (chain hb3 hb9), (hk4.on hb9), hk10, (by simp), rfl⟩ ⟨rfl, rfl, rfl, trivial⟩ ?_
              rintro m0_ G w_L26 ⟨j0, hp27, hp28, hB_L26, hf29, hf30, hf31, rfl⟩
              have hs_w_L26 := hB_L26.size
              have hltb_hf29 := hf29.lt
              have hltb_hf30 := hf30.lt
              refine w_seq ?_
              refine w_seq ?_
              refine w_region ?_
              refine rw_val (v := .int .i64 ((j0 : Nat) : Int)) (w' := w_L26) rfl rfl rfl rfl rfl ?_
              refine rw_val (v := .pointer (some ⟨g1, 3, none⟩)) (w' := w_L26) rfl rfl rfl rfl (by simp [go_sem, sEv, sLook, nbeq, i64_w, -List.getD_eq_getElem?_getD, Try.underlying26]) ?_
              refine rw_val (v := .slice A3 m.nums.length c3) (w' := w_L26) rfl rfl rfl rfl (by have eb_ := hf29; have e0_ := eb_.cellv (i := 3) (v := (.slice A3 m.nums.length c3 : Value)) rfl; simp [go_sem, sEv, sLook, nbeq, i64_w, -List.getD_eq_getElem?_getD, e0_, Try.underlying22]) ?_
              refine rw_val (v := .int .i64 ((m.nums.length : Nat) : Int)) (w' := w_L26) rfl rfl rfl rfl (by simp [go_sem, sEv, sLook, nbeq, i64_w, -List.getD_eq_getElem?_getD]) ?_
              refine rw_val (v := .bool (decide (((j0 : Nat) : Int) < ((m.nums.length : Nat) : Int)))) (w' := w_L26) rfl rfl rfl rfl (by simp [go_sem, sEv, sLook, nbeq, i64_w, -List.getD_eq_getElem?_getD]) ?_
              refine rw_end ?_
              refine w_weaken (G' := [(2, .pointer (some ⟨g1, 0, none⟩)), (3, .pointer (some ⟨g7, 0, none⟩)), (5, .int .i64 ((j0 : Nat) : Int)), (58, .bool (decide (((j0 : Nat) : Int) < ((m.nums.length : Nat) : Int))))]) ⟨rfl, rfl, rfl, rfl, trivial⟩ ?_
              refine w_cond rfl rfl (fun cJ => ?_) (fun cJ => ?_)
              · have l32 : (((j0 : Nat) : Int) < ((m.nums.length : Nat) : Int)) := of_decide_eq_true cJ
                refine w_skip ?_
                refine w_seq ?_
                refine w_block ?_
                refine w_seq ?_
                obtain ⟨ad33, hA34, hc35⟩ := int_at (Kd.C_below hn3 hB_L26) 0 j0 (by first | omega | decide)
                subst hA34
                have he36 : w_L26.cell? (ad33.add (j0)) = some (.int .i64 (m.nums.getD j0 0)) := cell_0 (hc35 0 _ rfl)
                obtain ⟨ad37, hA38, hc39⟩ := int_at (Kd.C_below hn6 hB_L26) 0 j0 (by first | omega | decide)
                subst hA38
                have he40 : w_L26.cell? (ad37.add (j0)) = some (.int .i64 (n.nums.getD j0 0)) := cell_0 (hc39 0 _ rfl)
                refine w_drawk (M := [0, 1, 0, 7, 15, 0, 32, 0, 224, 480, 1023]) (ss := [Is (.pointer (some ⟨g1, 3, none⟩)), Is (.slice (some ad33) m.nums.length c3), Is (.int .i64 ((j0 : Nat) : Int)), Is (.pointer (some (ad33.add (j0)))), Is (.int .i64 (m.nums.getD j0 0)), Is (.pointer (some ⟨g7, 3, none⟩)), Is (.slice (some ad37) n.nums.length c6), Is (.int .i64 ((j0 : Nat) : Int)), Is (.pointer (some (ad37.add (j0)))), Is (.int .i64 (n.nums.getD j0 0))]) 10 rfl (by decide +kernel) ?_
                refine t_is (.pointer (some ⟨g1, 3, none⟩)) rfl rfl rfl rfl (fun W_ hW_ F_ => by simp [go_sem, sEv, sLook, nbeq, i64_w, -List.getD_eq_getElem?_getD, Try.underlying26]) ?_
                refine t_is (.slice (some ad33) m.nums.length c3) rfl rfl rfl rfl (fun W_ hW_ F_ => by have eb_ := (hf29.on (below_of_drew hW_)); have e0_ := eb_.cellv (i := 3) (v := (.slice (some ad33) m.nums.length c3 : Value)) rfl; simp [go_sem, sEv, sLook, nbeq, i64_w, -List.getD_eq_getElem?_getD, e0_, Try.underlying22]) ?_
                refine t_is (.int .i64 ((j0 : Nat) : Int)) rfl rfl rfl rfl (fun W_ hW_ F_ => rfl) ?_
                refine t_is (.pointer (some (ad33.add (j0)))) rfl rfl rfl rfl (fun W_ hW_ F_ => (run_as (run_at_1 (P := Try.prog) (e := 3) (by kernel_rfl) (by kernel_rfl) j0 (by first | omega | decide) _))) ?_
                refine t_is (.int .i64 (m.nums.getD j0 0)) rfl rfl rfl rfl (fun W_ hW_ F_ => by have e0_ := cellOn he36 (below_of_drew hW_); simp [go_sem, sEv, sLook, nbeq, i64_w, -List.getD_eq_getElem?_getD, e0_]) ?_
                refine t_is (.pointer (some ⟨g7, 3, none⟩)) rfl rfl rfl rfl (fun W_ hW_ F_ => by simp [go_sem, sEv, sLook, nbeq, i64_w, -List.getD_eq_getElem?_getD, Try.underlying26]) ?_
                refine t_is (.slice (some ad37) n.nums.length c6) rfl rfl rfl rfl (fun W_ hW_ F_ => by have eb_ := (hf30.on (below_of_drew hW_)); have e0_ := eb_.cellv (i := 3) (v := (.slice (some ad37) n.nums.length c6 : Value)) rfl; simp [go_sem, sEv, sLook, nbeq, i64_w, -List.getD_eq_getElem?_getD, e0_, Try.underlying22]) ?_
                refine t_is (.int .i64 ((j0 : Nat) : Int)) rfl rfl rfl rfl (fun W_ hW_ F_ => rfl) ?_
                refine t_is (.pointer (some (ad37.add (j0)))) rfl rfl rfl rfl (fun W_ hW_ F_ => (run_as (run_at_1 (P := Try.prog) (e := 3) (by kernel_rfl) (by kernel_rfl) j0 (by first | omega | decide) _))) ?_
                refine t_is (.int .i64 (n.nums.getD j0 0)) rfl rfl rfl rfl (fun W_ hW_ F_ => by have e0_ := cellOn he40 (below_of_drew hW_); simp [go_sem, sEv, sLook, nbeq, i64_w, -List.getD_eq_getElem?_getD, e0_]) ?_
                refine t_tail ?_
                intro w41 hb42_ F43
                have hb42 := below_of_drew hb42_
                have hs_w41 := hb42.size
                clear F43
                refine rw_val (v := .bool ((m.nums.getD j0 0) != (n.nums.getD j0 0))) (w' := w41) rfl rfl rfl rfl (by simp [go_sem, sEv, sLook, nbeq, i64_w, -List.getD_eq_getElem?_getD]) ?_
                refine rw_end ?_
                refine w_weaken (G' := [(2, .pointer (some ⟨g1, 0, none⟩)), (3, .pointer (some ⟨g7, 0, none⟩)), (5, .int .i64 ((j0 : Nat) : Int)), (71, .bool ((m.nums.getD j0 0) != (n.nums.getD j0 0)))]) ⟨rfl, rfl, rfl, rfl, trivial⟩ ?_
                refine w_cond rfl rfl (fun cD => ?_) (fun cD => ?_)
                · have l44 : ¬ (m.nums.getD j0 0) = (n.nums.getD j0 0) := by simpa using cD
                  refine w_seq ?_
                  refine w_region ?_
                  refine rw_val (v := .bool false) (w' := w41) rfl rfl rfl rfl rfl ?_
                  refine rw_end ?_
                  refine w_ret (post_ret1 rfl rfl ?_)
                  exact ⟨_, rfl, no_iff (fun h_ => getD_ne (z := 0) (j := j0) (by simpa using cD) ((same_iff m n).1 h_).2.1), (chain hB_L26 hb42)⟩
                · have l45 : (m.nums.getD j0 0) = (n.nums.getD j0 0) := by simpa using cD
                  refine w_skip ?_
                  refine w_blk ?_
                  refine w_region ?_
                  refine rw_val (v := .int .i64 ((j0 : Nat) : Int)) (w' := w41) rfl rfl rfl rfl rfl ?_
                  refine rw_val (v := .int .i64 ((j0 + 1 : Nat) : Int)) (w' := w41) rfl rfl rfl rfl (by simp [go_sem, sEv, sLook, nbeq, i64_w, -List.getD_eq_getElem?_getD]; exact wrap_id (by omega) (by omega)) ?_
                  refine rw_val (v := .int .i64 ((j0 + 1 : Nat) : Int)) (w' := w41) rfl rfl rfl rfl rfl ?_
                  refine rw_end ?_
                  exact w_back (m0_ - 1) [(2, .pointer (some ⟨g1, 0, none⟩)), (3, .pointer (some ⟨g7, 0, none⟩)), (5, .int .i64 ((j0 + 1 : Nat) : Int))] (by omega) ⟨rfl, rfl, rfl, trivial⟩ ⟨(j0 + 1), by omega, by omega, (chain hB_L26 hb42), (hf29.on hb42), (hf30.on hb42), (take_eq_step (z := 0) (by omega) (by omega) hf31 (by simpa using cD)), rfl⟩
              · have l46 : ¬ (((j0 : Nat) : Int) < ((m.nums.length : Nat) : Int)) := of_decide_eq_false cJ
                refine w_exit rfl ?_
                refine w_seq ?_
                refine w_seq ?_
                refine w_region ?_
                refine rw_val (v := .int .i64 0) (w' := w_L26) rfl rfl rfl rfl rfl ?_
                refine rw_end ?_
                refine w_block ?_
                have heq1_ : m.nums = n.nums := take_eq_all (by omega) (by omega) hf31
                refine w_loop (fun m_ G W_ => ∃ (j1 : Nat), j1 + m_ = m.ops.length ∧ n.ops.length = m.ops.length ∧ Below w.heap.size w W_ ∧ (Blk W_ g1 26 #[.int .i64 m.kind, .int .i64 m.fr, .int .i64 m.tw, .slice A3 m.nums.length c3, .slice A4 m.ops.length c4, .slice A5 m.ents.length c5]) ∧ (Blk W_ g7 26 #[.int .i64 n.kind, .int .i64 n.fr, .int .i64 n.tw, .slice A6 n.nums.length c6, .slice A7 n.ops.length c7, .slice A8 n.ents.length c8]) ∧ (m.ops.take j1 = n.ops.take j1) ∧ G = [(2, .pointer (some ⟨g1, 0, none⟩)), (3, .pointer (some ⟨g7, 0, none⟩)), (6, .int .i64 ((j1 : Nat) : Int))]) m.ops.length [(2, .pointer (some ⟨g1, 0, none⟩)), (3, .pointer (some ⟨g7, 0, none⟩)), (6, .int .i64 0)] ⟨0, by omega, by omega, hB_L26, hf29, hf30, (by simp), rfl⟩ ⟨rfl, rfl, rfl, trivial⟩ ?_
                rintro m1_ G w_L47 ⟨j1, hp48, hp49, hB_L47, hf50, hf51, hf52, rfl⟩
                have hs_w_L47 := hB_L47.size
                have hltb_hf50 := hf50.lt
                have hltb_hf51 := hf51.lt
                refine w_seq ?_
                refine w_seq ?_
                refine w_region ?_
                refine rw_val (v := .int .i64 ((j1 : Nat) : Int)) (w' := w_L47) rfl rfl rfl rfl rfl ?_
                refine rw_val (v := .pointer (some ⟨g1, 4, none⟩)) (w' := w_L47) rfl rfl rfl rfl (by simp [go_sem, sEv, sLook, nbeq, i64_w, -List.getD_eq_getElem?_getD, Try.underlying26]) ?_
                refine rw_val (v := .slice A4 m.ops.length c4) (w' := w_L47) rfl rfl rfl rfl (by have eb_ := hf50; have e0_ := eb_.cellv (i := 4) (v := (.slice A4 m.ops.length c4 : Value)) rfl; simp [go_sem, sEv, sLook, nbeq, i64_w, -List.getD_eq_getElem?_getD, e0_, Try.underlying23]) ?_
                refine rw_val (v := .int .i64 ((m.ops.length : Nat) : Int)) (w' := w_L47) rfl rfl rfl rfl (by simp [go_sem, sEv, sLook, nbeq, i64_w, -List.getD_eq_getElem?_getD]) ?_
                refine rw_val (v := .bool (decide (((j1 : Nat) : Int) < ((m.ops.length : Nat) : Int)))) (w' := w_L47) rfl rfl rfl rfl (by simp [go_sem, sEv, sLook, nbeq, i64_w, -List.getD_eq_getElem?_getD]) ?_
                refine rw_end ?_
                refine w_weaken (G' := [(2, .pointer (some ⟨g1, 0, none⟩)), (3, .pointer (some ⟨g7, 0, none⟩)), (6, .int .i64 ((j1 : Nat) : Int)), (76, .bool (decide (((j1 : Nat) : Int) < ((m.ops.length : Nat) : Int))))]) ⟨rfl, rfl, rfl, rfl, trivial⟩ ?_
                refine w_cond rfl rfl (fun cJ => ?_) (fun cJ => ?_)
                · have l53 : (((j1 : Nat) : Int) < ((m.ops.length : Nat) : Int)) := of_decide_eq_true cJ
                  refine w_skip ?_
                  refine w_seq ?_
                  refine w_block ?_
                  refine w_seq ?_
                  obtain ⟨ad54, hA55, hc56⟩ := flat_at (Kd.C_below hn4 hB_L47) (0, 0, 0, 0, 0) j1 (by first | omega | decide)
                  subst hA55
                  have he57 : w_L47.cell? (ad54.add (j1 * 5)) = some (.int .i64 ((m.ops.getD j1 (0, 0, 0, 0, 0)).1)) := cell_0 (hc56 0 _ rfl)
                  have he58 : w_L47.cell? ⟨(ad54.add (j1 * 5)).block, (ad54.add (j1 * 5)).off + 1, none⟩ = some (.int .i64 ((m.ops.getD j1 (0, 0, 0, 0, 0)).2.1)) := cell_j (hc56 1 _ rfl)
                  have he59 : w_L47.cell? ⟨(ad54.add (j1 * 5)).block, (ad54.add (j1 * 5)).off + 2, none⟩ = some (.int .i64 ((m.ops.getD j1 (0, 0, 0, 0, 0)).2.2.1)) := cell_j (hc56 2 _ rfl)
                  have he60 : w_L47.cell? ⟨(ad54.add (j1 * 5)).block, (ad54.add (j1 * 5)).off + 3, none⟩ = some (.int .i64 ((m.ops.getD j1 (0, 0, 0, 0, 0)).2.2.2.1)) := cell_j (hc56 3 _ rfl)
                  have he61 : w_L47.cell? ⟨(ad54.add (j1 * 5)).block, (ad54.add (j1 * 5)).off + 4, none⟩ = some (.int .i64 ((m.ops.getD j1 (0, 0, 0, 0, 0)).2.2.2.2)) := cell_j (hc56 4 _ rfl)
                  obtain ⟨ad62, hA63, hc64⟩ := flat_at (Kd.C_below hn7 hB_L47) (0, 0, 0, 0, 0) j1 (by first | omega | decide)
                  subst hA63
                  have he65 : w_L47.cell? (ad62.add (j1 * 5)) = some (.int .i64 ((n.ops.getD j1 (0, 0, 0, 0, 0)).1)) := cell_0 (hc64 0 _ rfl)
                  have he66 : w_L47.cell? ⟨(ad62.add (j1 * 5)).block, (ad62.add (j1 * 5)).off + 1, none⟩ = some (.int .i64 ((n.ops.getD j1 (0, 0, 0, 0, 0)).2.1)) := cell_j (hc64 1 _ rfl)
                  have he67 : w_L47.cell? ⟨(ad62.add (j1 * 5)).block, (ad62.add (j1 * 5)).off + 2, none⟩ = some (.int .i64 ((n.ops.getD j1 (0, 0, 0, 0, 0)).2.2.1)) := cell_j (hc64 2 _ rfl)
                  have he68 : w_L47.cell? ⟨(ad62.add (j1 * 5)).block, (ad62.add (j1 * 5)).off + 3, none⟩ = some (.int .i64 ((n.ops.getD j1 (0, 0, 0, 0, 0)).2.2.2.1)) := cell_j (hc64 3 _ rfl)
                  have he69 : w_L47.cell? ⟨(ad62.add (j1 * 5)).block, (ad62.add (j1 * 5)).off + 4, none⟩ = some (.int .i64 ((n.ops.getD j1 (0, 0, 0, 0, 0)).2.2.2.2)) := cell_j (hc64 4 _ rfl)
                  refine w_drawk (M := [0, 1, 0, 7, 15, 0, 32, 0, 224, 480, 1023]) (ss := [Is (.pointer (some ⟨g1, 4, none⟩)), Is (.slice (some ad54) m.ops.length c4), Is (.int .i64 ((j1 : Nat) : Int)), Is (.pointer (some (ad54.add (j1 * 5)))), Is (.agg #[.int .i64 ((m.ops.getD j1 (0, 0, 0, 0, 0)).1), .int .i64 ((m.ops.getD j1 (0, 0, 0, 0, 0)).2.1), .int .i64 ((m.ops.getD j1 (0, 0, 0, 0, 0)).2.2.1), .int .i64 ((m.ops.getD j1 (0, 0, 0, 0, 0)).2.2.2.1), .int .i64 ((m.ops.getD j1 (0, 0, 0, 0, 0)).2.2.2.2)]), Is (.pointer (some ⟨g7, 4, none⟩)), Is (.slice (some ad62) n.ops.length c7), Is (.int .i64 ((j1 : Nat) : Int)), Is (.pointer (some (ad62.add (j1 * 5)))), Is (.agg #[.int .i64 ((n.ops.getD j1 (0, 0, 0, 0, 0)).1), .int .i64 ((n.ops.getD j1 (0, 0, 0, 0, 0)).2.1), .int .i64 ((n.ops.getD j1 (0, 0, 0, 0, 0)).2.2.1), .int .i64 ((n.ops.getD j1 (0, 0, 0, 0, 0)).2.2.2.1), .int .i64 ((n.ops.getD j1 (0, 0, 0, 0, 0)).2.2.2.2)])]) 10 rfl (by decide +kernel) ?_
                  refine t_is (.pointer (some ⟨g1, 4, none⟩)) rfl rfl rfl rfl (fun W_ hW_ F_ => by simp [go_sem, sEv, sLook, nbeq, i64_w, -List.getD_eq_getElem?_getD, Try.underlying26]) ?_
                  refine t_is (.slice (some ad54) m.ops.length c4) rfl rfl rfl rfl (fun W_ hW_ F_ => by have eb_ := (hf50.on (below_of_drew hW_)); have e0_ := eb_.cellv (i := 4) (v := (.slice (some ad54) m.ops.length c4 : Value)) rfl; simp [go_sem, sEv, sLook, nbeq, i64_w, -List.getD_eq_getElem?_getD, e0_, Try.underlying23]) ?_
                  refine t_is (.int .i64 ((j1 : Nat) : Int)) rfl rfl rfl rfl (fun W_ hW_ F_ => rfl) ?_
                  refine t_is (.pointer (some (ad54.add (j1 * 5)))) rfl rfl rfl rfl (fun W_ hW_ F_ => (run_as (run_at_k (P := Try.prog) (e := 73) (sz := 5) (by kernel_rfl) (by kernel_rfl) j1 (by first | omega | decide) _))) ?_
                  refine t_is (.agg #[.int .i64 ((m.ops.getD j1 (0, 0, 0, 0, 0)).1), .int .i64 ((m.ops.getD j1 (0, 0, 0, 0, 0)).2.1), .int .i64 ((m.ops.getD j1 (0, 0, 0, 0, 0)).2.2.1), .int .i64 ((m.ops.getD j1 (0, 0, 0, 0, 0)).2.2.2.1), .int .i64 ((m.ops.getD j1 (0, 0, 0, 0, 0)).2.2.2.2)]) rfl rfl rfl rfl (fun W_ hW_ F_ => by have e0_ := cellOn he57 (below_of_drew hW_); have e1_ := cellOn he58 (below_of_drew hW_); have e2_ := cellOn he59 (below_of_drew hW_); have e3_ := cellOn he60 (below_of_drew hW_); have e4_ := cellOn he61 (below_of_drew hW_); simp [go_sem, sEv, sLook, nbeq, i64_w, -List.getD_eq_getElem?_getD, e0_, e1_, e2_, e3_, e4_, Try.underlying73]) ?_
                  refine t_is (.pointer (some ⟨g7, 4, none⟩)) rfl rfl rfl rfl (fun W_ hW_ F_ => by simp [go_sem, sEv, sLook, nbeq, i64_w, -List.getD_eq_getElem?_getD, Try.underlying26]) ?_
                  refine t_is (.slice (some ad62) n.ops.length c7) rfl rfl rfl rfl (fun W_ hW_ F_ => by have eb_ := (hf51.on (below_of_drew hW_)); have e0_ := eb_.cellv (i := 4) (v := (.slice (some ad62) n.ops.length c7 : Value)) rfl; simp [go_sem, sEv, sLook, nbeq, i64_w, -List.getD_eq_getElem?_getD, e0_, Try.underlying23]) ?_
                  refine t_is (.int .i64 ((j1 : Nat) : Int)) rfl rfl rfl rfl (fun W_ hW_ F_ => rfl) ?_
                  refine t_is (.pointer (some (ad62.add (j1 * 5)))) rfl rfl rfl rfl (fun W_ hW_ F_ => (run_as (run_at_k (P := Try.prog) (e := 73) (sz := 5) (by kernel_rfl) (by kernel_rfl) j1 (by first | omega | decide) _))) ?_
                  refine t_is (.agg #[.int .i64 ((n.ops.getD j1 (0, 0, 0, 0, 0)).1), .int .i64 ((n.ops.getD j1 (0, 0, 0, 0, 0)).2.1), .int .i64 ((n.ops.getD j1 (0, 0, 0, 0, 0)).2.2.1), .int .i64 ((n.ops.getD j1 (0, 0, 0, 0, 0)).2.2.2.1), .int .i64 ((n.ops.getD j1 (0, 0, 0, 0, 0)).2.2.2.2)]) rfl rfl rfl rfl (fun W_ hW_ F_ => by have e0_ := cellOn he65 (below_of_drew hW_); have e1_ := cellOn he66 (below_of_drew hW_); have e2_ := cellOn he67 (below_of_drew hW_); have e3_ := cellOn he68 (below_of_drew hW_); have e4_ := cellOn he69 (below_of_drew hW_); simp [go_sem, sEv, sLook, nbeq, i64_w, -List.getD_eq_getElem?_getD, e0_, e1_, e2_, e3_, e4_, Try.underlying73]) ?_
                  refine t_tail ?_
                  intro w70 hb71_ F72
                  have hb71 := below_of_drew hb71_
                  have hs_w70 := hb71.size
                  clear F72
                  refine rw_val (v := .bool (!(((m.ops.getD j1 (0, 0, 0, 0, 0)).1) == ((n.ops.getD j1 (0, 0, 0, 0, 0)).1) && (((m.ops.getD j1 (0, 0, 0, 0, 0)).2.1) == ((n.ops.getD j1 (0, 0, 0, 0, 0)).2.1) && (((m.ops.getD j1 (0, 0, 0, 0, 0)).2.2.1) == ((n.ops.getD j1 (0, 0, 0, 0, 0)).2.2.1) && (((m.ops.getD j1 (0, 0, 0, 0, 0)).2.2.2.1) == ((n.ops.getD j1 (0, 0, 0, 0, 0)).2.2.2.1) && (((m.ops.getD j1 (0, 0, 0, 0, 0)).2.2.2.2) == ((n.ops.getD j1 (0, 0, 0, 0, 0)).2.2.2.2)))))))) (w' := w70) rfl rfl rfl rfl (by simp [go_sem, sEv, sLook, nbeq, i64_w, -List.getD_eq_getElem?_getD, eqA73]) ?_
                  refine rw_end ?_
                  refine w_weaken (G' := [(2, .pointer (some ⟨g1, 0, none⟩)), (3, .pointer (some ⟨g7, 0, none⟩)), (6, .int .i64 ((j1 : Nat) : Int)), (89, .bool (!(((m.ops.getD j1 (0, 0, 0, 0, 0)).1) == ((n.ops.getD j1 (0, 0, 0, 0, 0)).1) && (((m.ops.getD j1 (0, 0, 0, 0, 0)).2.1) == ((n.ops.getD j1 (0, 0, 0, 0, 0)).2.1) && (((m.ops.getD j1 (0, 0, 0, 0, 0)).2.2.1) == ((n.ops.getD j1 (0, 0, 0, 0, 0)).2.2.1) && (((m.ops.getD j1 (0, 0, 0, 0, 0)).2.2.2.1) == ((n.ops.getD j1 (0, 0, 0, 0, 0)).2.2.2.1) && (((m.ops.getD j1 (0, 0, 0, 0, 0)).2.2.2.2) == ((n.ops.getD j1 (0, 0, 0, 0, 0)).2.2.2.2))))))))]) ⟨rfl, rfl, rfl, rfl, trivial⟩ ?_
                  refine w_cond rfl rfl (fun cD => ?_) (fun cD => ?_)
                  · refine w_seq ?_
                    refine w_region ?_
                    refine rw_val (v := .bool false) (w' := w70) rfl rfl rfl rfl rfl ?_
                    refine rw_end ?_
                    refine w_ret (post_ret1 rfl rfl ?_)
                    exact ⟨_, rfl, no_iff (fun h_ => getD_ne (z := (0, 0, 0, 0, 0)) (j := j1) (fun e_ => by rw [e_] at cD; simp at cD) ((same_iff m n).1 h_).2.2.1), (chain hB_L47 hb71)⟩
                  · refine w_skip ?_
                    refine w_blk ?_
                    refine w_region ?_
                    refine rw_val (v := .int .i64 ((j1 : Nat) : Int)) (w' := w70) rfl rfl rfl rfl rfl ?_
                    refine rw_val (v := .int .i64 ((j1 + 1 : Nat) : Int)) (w' := w70) rfl rfl rfl rfl (by simp [go_sem, sEv, sLook, nbeq, i64_w, -List.getD_eq_getElem?_getD]; exact wrap_id (by omega) (by omega)) ?_
                    refine rw_val (v := .int .i64 ((j1 + 1 : Nat) : Int)) (w' := w70) rfl rfl rfl rfl rfl ?_
                    refine rw_end ?_
                    exact w_back (m1_ - 1) [(2, .pointer (some ⟨g1, 0, none⟩)), (3, .pointer (some ⟨g7, 0, none⟩)), (6, .int .i64 ((j1 + 1 : Nat) : Int))] (by omega) ⟨rfl, rfl, rfl, trivial⟩ ⟨(j1 + 1), by omega, by omega, (chain hB_L47 hb71), (hf50.on hb71), (hf51.on hb71), (take_eq_step (z := (0, 0, 0, 0, 0)) (by omega) (by omega) hf52 (by simp only [Bool.not_eq_false', Bool.not_false, Bool.and_eq_true, beq_iff_eq] at cD; obtain ⟨q1, q2, q3, q4, q5⟩ := cD; exact Prod.ext q1 (Prod.ext q2 (Prod.ext q3 (Prod.ext q4 q5))))), rfl⟩
                · have l73 : ¬ (((j1 : Nat) : Int) < ((m.ops.length : Nat) : Int)) := of_decide_eq_false cJ
                  refine w_exit rfl ?_
                  refine w_seq ?_
                  refine w_seq ?_
                  refine w_region ?_
                  refine rw_val (v := .int .i64 0) (w' := w_L47) rfl rfl rfl rfl rfl ?_
                  refine rw_end ?_
                  refine w_block ?_
                  have heq2_ : m.ops = n.ops := take_eq_all (by omega) (by omega) hf52
                  refine w_loop (fun m_ G W_ => ∃ (j2 : Nat), j2 + m_ = m.ents.length ∧ n.ents.length = m.ents.length ∧ Below w.heap.size w W_ ∧ (Blk W_ g1 26 #[.int .i64 m.kind, .int .i64 m.fr, .int .i64 m.tw, .slice A3 m.nums.length c3, .slice A4 m.ops.length c4, .slice A5 m.ents.length c5]) ∧ (Blk W_ g7 26 #[.int .i64 n.kind, .int .i64 n.fr, .int .i64 n.tw, .slice A6 n.nums.length c6, .slice A7 n.ops.length c7, .slice A8 n.ents.length c8]) ∧ (m.ents.take j2 = n.ents.take j2) ∧ G = [(2, .pointer (some ⟨g1, 0, none⟩)), (3, .pointer (some ⟨g7, 0, none⟩)), (7, .int .i64 ((j2 : Nat) : Int))]) m.ents.length [(2, .pointer (some ⟨g1, 0, none⟩)), (3, .pointer (some ⟨g7, 0, none⟩)), (7, .int .i64 0)] ⟨0, by omega, by omega, hB_L47, hf50, hf51, (by simp), rfl⟩ ⟨rfl, rfl, rfl, trivial⟩ ?_
                  rintro m2_ G w_L74 ⟨j2, hp75, hp76, hB_L74, hf77, hf78, hf79, rfl⟩
                  have hs_w_L74 := hB_L74.size
                  have hltb_hf77 := hf77.lt
                  have hltb_hf78 := hf78.lt
                  refine w_seq ?_
                  refine w_seq ?_
                  refine w_region ?_
                  refine rw_val (v := .int .i64 ((j2 : Nat) : Int)) (w' := w_L74) rfl rfl rfl rfl rfl ?_
                  refine rw_val (v := .pointer (some ⟨g1, 5, none⟩)) (w' := w_L74) rfl rfl rfl rfl (by simp [go_sem, sEv, sLook, nbeq, i64_w, -List.getD_eq_getElem?_getD, Try.underlying26]) ?_
                  refine rw_val (v := .slice A5 m.ents.length c5) (w' := w_L74) rfl rfl rfl rfl (by have eb_ := hf77; have e0_ := eb_.cellv (i := 5) (v := (.slice A5 m.ents.length c5 : Value)) rfl; simp [go_sem, sEv, sLook, nbeq, i64_w, -List.getD_eq_getElem?_getD, e0_, Try.underlying24]) ?_
                  refine rw_val (v := .int .i64 ((m.ents.length : Nat) : Int)) (w' := w_L74) rfl rfl rfl rfl (by simp [go_sem, sEv, sLook, nbeq, i64_w, -List.getD_eq_getElem?_getD]) ?_
                  refine rw_val (v := .bool (decide (((j2 : Nat) : Int) < ((m.ents.length : Nat) : Int)))) (w' := w_L74) rfl rfl rfl rfl (by simp [go_sem, sEv, sLook, nbeq, i64_w, -List.getD_eq_getElem?_getD]) ?_
                  refine rw_end ?_
                  refine w_weaken (G' := [(2, .pointer (some ⟨g1, 0, none⟩)), (3, .pointer (some ⟨g7, 0, none⟩)), (7, .int .i64 ((j2 : Nat) : Int)), (94, .bool (decide (((j2 : Nat) : Int) < ((m.ents.length : Nat) : Int))))]) ⟨rfl, rfl, rfl, rfl, trivial⟩ ?_
                  refine w_cond rfl rfl (fun cJ => ?_) (fun cJ => ?_)
                  · have l80 : (((j2 : Nat) : Int) < ((m.ents.length : Nat) : Int)) := of_decide_eq_true cJ
                    refine w_skip ?_
                    refine w_seq ?_
                    refine w_block ?_
                    refine w_seq ?_
                    obtain ⟨ad81, hA82, hc83⟩ := flat_at (Kd.C_below hn5 hB_L74) EL.zero j2 (by first | omega | decide)
                    subst hA82
                    obtain ⟨ad84, hA85, hc86⟩ := flat_at (Kd.C_below hn8 hB_L74) EL.zero j2 (by first | omega | decide)
                    subst hA85
                    refine w_drawk (M := [0, 1, 0, 7, 15, 0, 32, 0, 224, 480, 1023]) (ss := [Is (.pointer (some ⟨g1, 5, none⟩)), Is (.slice (some ad81) m.ents.length c5), Is (.int .i64 ((j2 : Nat) : Int)), Is (.pointer (some (ad81.add (j2 * 76)))), Is (.agg (earr (m.ents.getD j2 EL.zero))), Is (.pointer (some ⟨g7, 5, none⟩)), Is (.slice (some ad84) n.ents.length c8), Is (.int .i64 ((j2 : Nat) : Int)), Is (.pointer (some (ad84.add (j2 * 76)))), Is (.agg (earr (n.ents.getD j2 EL.zero)))]) 10 rfl (by decide +kernel) ?_
                    refine t_is (.pointer (some ⟨g1, 5, none⟩)) rfl rfl rfl rfl (fun W_ hW_ F_ => by simp [go_sem, sEv, sLook, nbeq, i64_w, -List.getD_eq_getElem?_getD, Try.underlying26]) ?_
                    refine t_is (.slice (some ad81) m.ents.length c5) rfl rfl rfl rfl (fun W_ hW_ F_ => by have eb_ := (hf77.on (below_of_drew hW_)); have e0_ := eb_.cellv (i := 5) (v := (.slice (some ad81) m.ents.length c5 : Value)) rfl; simp [go_sem, sEv, sLook, nbeq, i64_w, -List.getD_eq_getElem?_getD, e0_, Try.underlying24]) ?_
                    refine t_is (.int .i64 ((j2 : Nat) : Int)) rfl rfl rfl rfl (fun W_ hW_ F_ => rfl) ?_
                    refine t_is (.pointer (some (ad81.add (j2 * 76)))) rfl rfl rfl rfl (fun W_ hW_ F_ => (run_as (run_at_k (P := Try.prog) (e := 83) (sz := 76) (by kernel_rfl) (by kernel_rfl) j2 (by first | omega | decide) _))) ?_
                    refine t_is (.agg (earr (m.ents.getD j2 EL.zero))) rfl rfl rfl rfl (fun W_ hW_ F_ => (run_as (load_eel (x := (m.ents.getD j2 EL.zero)) (fun j u hj => cellOn (hc83 j u hj) (chain (Below.refl _ _) (below_of_drew hW_)))))) ?_
                    refine t_is (.pointer (some ⟨g7, 5, none⟩)) rfl rfl rfl rfl (fun W_ hW_ F_ => by simp [go_sem, sEv, sLook, nbeq, i64_w, -List.getD_eq_getElem?_getD, Try.underlying26]) ?_
                    refine t_is (.slice (some ad84) n.ents.length c8) rfl rfl rfl rfl (fun W_ hW_ F_ => by have eb_ := (hf78.on (below_of_drew hW_)); have e0_ := eb_.cellv (i := 5) (v := (.slice (some ad84) n.ents.length c8 : Value)) rfl; simp [go_sem, sEv, sLook, nbeq, i64_w, -List.getD_eq_getElem?_getD, e0_, Try.underlying24]) ?_
                    refine t_is (.int .i64 ((j2 : Nat) : Int)) rfl rfl rfl rfl (fun W_ hW_ F_ => rfl) ?_
                    refine t_is (.pointer (some (ad84.add (j2 * 76)))) rfl rfl rfl rfl (fun W_ hW_ F_ => (run_as (run_at_k (P := Try.prog) (e := 83) (sz := 76) (by kernel_rfl) (by kernel_rfl) j2 (by first | omega | decide) _))) ?_
                    refine t_is (.agg (earr (n.ents.getD j2 EL.zero))) rfl rfl rfl rfl (fun W_ hW_ F_ => (run_as (load_eel (x := (n.ents.getD j2 EL.zero)) (fun j u hj => cellOn (hc86 j u hj) (chain (Below.refl _ _) (below_of_drew hW_)))))) ?_
                    refine t_tail ?_
                    intro w87 hb88_ F89
                    have hb88 := below_of_drew hb88_
                    have hs_w87 := hb88.size
                    clear F89
                    refine rw_val (v := .bool (!(eqE (m.ents.getD j2 EL.zero) (n.ents.getD j2 EL.zero)))) (w' := w87) rfl rfl rfl rfl (run_as (guard_ne_entry _ _ _ _ _)) ?_
                    refine rw_end ?_
                    refine w_weaken (G' := [(2, .pointer (some ⟨g1, 0, none⟩)), (3, .pointer (some ⟨g7, 0, none⟩)), (7, .int .i64 ((j2 : Nat) : Int)), (107, .bool (!(eqE (m.ents.getD j2 EL.zero) (n.ents.getD j2 EL.zero))))]) ⟨rfl, rfl, rfl, rfl, trivial⟩ ?_
                    refine w_cond rfl rfl (fun cD => ?_) (fun cD => ?_)
                    · refine w_seq ?_
                      refine w_region ?_
                      refine rw_val (v := .bool false) (w' := w87) rfl rfl rfl rfl rfl ?_
                      refine rw_end ?_
                      refine w_ret (post_ret1 rfl rfl ?_)
                      exact ⟨_, rfl, no_iff (fun h_ => getD_ne (z := EL.zero) (j := j2) (fun e_ => by rw [e_] at cD; simp [eqE_self] at cD) ((same_iff m n).1 h_).2.2.2), (chain hB_L74 hb88)⟩
                    · refine w_skip ?_
                      refine w_blk ?_
                      refine w_region ?_
                      refine rw_val (v := .int .i64 ((j2 : Nat) : Int)) (w' := w87) rfl rfl rfl rfl rfl ?_
                      refine rw_val (v := .int .i64 ((j2 + 1 : Nat) : Int)) (w' := w87) rfl rfl rfl rfl (by simp [go_sem, sEv, sLook, nbeq, i64_w, -List.getD_eq_getElem?_getD]; exact wrap_id (by omega) (by omega)) ?_
                      refine rw_val (v := .int .i64 ((j2 + 1 : Nat) : Int)) (w' := w87) rfl rfl rfl rfl rfl ?_
                      refine rw_end ?_
                      exact w_back (m2_ - 1) [(2, .pointer (some ⟨g1, 0, none⟩)), (3, .pointer (some ⟨g7, 0, none⟩)), (7, .int .i64 ((j2 + 1 : Nat) : Int))] (by omega) ⟨rfl, rfl, rfl, trivial⟩ ⟨(j2 + 1), by omega, by omega, (chain hB_L74 hb88), (hf77.on hb88), (hf78.on hb88), (take_eq_step (z := EL.zero) (by omega) (by omega) hf79 ((eqE_iff _ _).1 (by simpa using cD))), rfl⟩
                  · have l90 : ¬ (((j2 : Nat) : Int) < ((m.ents.length : Nat) : Int)) := of_decide_eq_false cJ
                    refine w_exit rfl ?_
                    refine w_seq ?_
                    refine w_region ?_
                    refine rw_val (v := .bool true) (w' := w_L74) rfl rfl rfl rfl rfl ?_
                    refine rw_end ?_
                    refine w_ret (post_ret1 rfl rfl ?_)
                    exact ⟨_, rfl, yes_iff ((same_iff m n).2 ⟨⟨by omega, by omega, by omega⟩, heq1_, heq2_, take_eq_all (by omega) (by omega) hf79⟩), hB_L74⟩
          · have l91 : ¬ ((m.ops.length : Nat) : Int) = ((n.ops.length : Nat) : Int) := by simpa using c21
            refine rw_off (c := (((m.ops.length : Nat) : Int) != ((n.ops.length : Nat) : Int))) rfl rfl rfl (by first | (rw [c21]; rfl) | simp [c21]) rfl rfl ?_
            refine rw_off (c := (((m.ops.length : Nat) : Int) != ((n.ops.length : Nat) : Int))) rfl rfl rfl (by first | (rw [c21]; rfl) | simp [c21]) rfl rfl ?_
            refine rw_off (c := (((m.ops.length : Nat) : Int) != ((n.ops.length : Nat) : Int))) rfl rfl rfl (by first | (rw [c21]; rfl) | simp [c21]) rfl rfl ?_
            refine rw_off (c := (((m.ops.length : Nat) : Int) != ((n.ops.length : Nat) : Int))) rfl rfl rfl (by first | (rw [c21]; rfl) | simp [c21]) rfl rfl ?_
            refine rw_off (c := (((m.ops.length : Nat) : Int) != ((n.ops.length : Nat) : Int))) rfl rfl rfl (by first | (rw [c21]; rfl) | simp [c21]) rfl rfl ?_
            refine rw_off (c := (((m.ops.length : Nat) : Int) != ((n.ops.length : Nat) : Int))) rfl rfl rfl (by first | (rw [c21]; rfl) | simp [c21]) rfl rfl ?_
            refine rw_off (c := (((m.ops.length : Nat) : Int) != ((n.ops.length : Nat) : Int))) rfl rfl rfl (by first | (rw [c21]; rfl) | simp [c21]) rfl rfl ?_
            refine rw_val (v := .bool true) (w' := w8) rfl rfl rfl rfl (by first | (simp [go_sem, sEv, sLook, nbeq, i64_w, -List.getD_eq_getElem?_getD, c21]; done) | (rw [c21]; simp [go_sem, sEv, sLook, nbeq, i64_w, -List.getD_eq_getElem?_getD]; done) | (simp [go_sem, sEv, sLook, nbeq, i64_w, -List.getD_eq_getElem?_getD] <;> omega) | (simp [go_sem, sEv, sLook, nbeq, i64_w, -List.getD_eq_getElem?_getD]; intro h_; exact absurd (by omega) h_)) ?_
            refine rw_end ?_
            refine w_weaken (G' := [(2, .pointer (some ⟨g1, 0, none⟩)), (3, .pointer (some ⟨g7, 0, none⟩)), (4, .bool false), (53, .bool true)]) ⟨rfl, rfl, rfl, rfl, trivial⟩ ?_
            refine w_cond_t rfl rfl rfl ?_
            refine w_seq ?_
            refine w_region ?_
            refine rw_val (v := .bool false) (w' := w8) rfl rfl rfl rfl rfl ?_
            refine rw_end ?_
            refine w_ret (post_ret1 rfl rfl ?_)
            exact ⟨_, rfl, no_iff (fun h_ => by obtain ⟨⟨q1, q2, q3⟩, q4, q5, q6⟩ := (same_iff m n).1 h_; have q7 := congrArg List.length q4; have q8 := congrArg List.length q5; have q9 := congrArg List.length q6; omega), (chain hb3 hb9)⟩
        · have l92 : ¬ ((m.nums.length : Nat) : Int) = ((n.nums.length : Nat) : Int) := by simpa using c19
          refine rw_off (c := (((m.nums.length : Nat) : Int) != ((n.nums.length : Nat) : Int))) rfl rfl rfl (by first | (rw [c19]; rfl) | simp [c19]) rfl rfl ?_
          refine rw_off (c := (((m.nums.length : Nat) : Int) != ((n.nums.length : Nat) : Int))) rfl rfl rfl (by first | (rw [c19]; rfl) | simp [c19]) rfl rfl ?_
          refine rw_off (c := (((m.nums.length : Nat) : Int) != ((n.nums.length : Nat) : Int))) rfl rfl rfl (by first | (rw [c19]; rfl) | simp [c19]) rfl rfl ?_
          refine rw_off (c := (((m.nums.length : Nat) : Int) != ((n.nums.length : Nat) : Int))) rfl rfl rfl (by first | (rw [c19]; rfl) | simp [c19]) rfl rfl ?_
          refine rw_off (c := (((m.nums.length : Nat) : Int) != ((n.nums.length : Nat) : Int))) rfl rfl rfl (by first | (rw [c19]; rfl) | simp [c19]) rfl rfl ?_
          refine rw_off (c := (((m.nums.length : Nat) : Int) != ((n.nums.length : Nat) : Int))) rfl rfl rfl (by first | (rw [c19]; rfl) | simp [c19]) rfl rfl ?_
          refine rw_off (c := (((m.nums.length : Nat) : Int) != ((n.nums.length : Nat) : Int))) rfl rfl rfl (by first | (rw [c19]; rfl) | simp [c19]) rfl rfl ?_
          refine rw_val (v := .bool true) (w' := w8) rfl rfl rfl rfl (by first | (simp [go_sem, sEv, sLook, nbeq, i64_w, -List.getD_eq_getElem?_getD, c19]; done) | (rw [c19]; simp [go_sem, sEv, sLook, nbeq, i64_w, -List.getD_eq_getElem?_getD]; done) | (simp [go_sem, sEv, sLook, nbeq, i64_w, -List.getD_eq_getElem?_getD] <;> omega) | (simp [go_sem, sEv, sLook, nbeq, i64_w, -List.getD_eq_getElem?_getD]; intro h_; exact absurd (by omega) h_)) ?_
          refine rw_val (v := .bool true) (w' := w8) rfl rfl rfl rfl rfl ?_
          refine rw_off (c := true) rfl rfl rfl rfl rfl rfl ?_
          refine rw_off (c := true) rfl rfl rfl rfl rfl rfl ?_
          refine rw_off (c := true) rfl rfl rfl rfl rfl rfl ?_
          refine rw_off (c := true) rfl rfl rfl rfl rfl rfl ?_
          refine rw_off (c := true) rfl rfl rfl rfl rfl rfl ?_
          refine rw_off (c := true) rfl rfl rfl rfl rfl rfl ?_
          refine rw_off (c := true) rfl rfl rfl rfl rfl rfl ?_
          refine rw_val (v := .bool true) (w' := w8) rfl rfl rfl rfl (by simp [go_sem, sEv, sLook, nbeq, i64_w, -List.getD_eq_getElem?_getD]) ?_
          refine rw_end ?_
          refine w_weaken (G' := [(2, .pointer (some ⟨g1, 0, none⟩)), (3, .pointer (some ⟨g7, 0, none⟩)), (4, .bool false), (53, .bool true)]) ⟨rfl, rfl, rfl, rfl, trivial⟩ ?_
          refine w_cond_t rfl rfl rfl ?_
          refine w_seq ?_
          refine w_region ?_
          refine rw_val (v := .bool false) (w' := w8) rfl rfl rfl rfl rfl ?_
          refine rw_end ?_
          refine w_ret (post_ret1 rfl rfl ?_)
          exact ⟨_, rfl, no_iff (fun h_ => by obtain ⟨⟨q1, q2, q3⟩, q4, q5, q6⟩ := (same_iff m n).1 h_; have q7 := congrArg List.length q4; have q8 := congrArg List.length q5; have q9 := congrArg List.length q6; omega), (chain hb3 hb9)⟩
      · have l93 : ¬ m.tw = n.tw := by simpa using c17
        refine rw_off (c := (m.tw != n.tw)) rfl rfl rfl (by first | (rw [c17]; rfl) | simp [c17]) rfl rfl ?_
        refine rw_off (c := (m.tw != n.tw)) rfl rfl rfl (by first | (rw [c17]; rfl) | simp [c17]) rfl rfl ?_
        refine rw_off (c := (m.tw != n.tw)) rfl rfl rfl (by first | (rw [c17]; rfl) | simp [c17]) rfl rfl ?_
        refine rw_off (c := (m.tw != n.tw)) rfl rfl rfl (by first | (rw [c17]; rfl) | simp [c17]) rfl rfl ?_
        refine rw_off (c := (m.tw != n.tw)) rfl rfl rfl (by first | (rw [c17]; rfl) | simp [c17]) rfl rfl ?_
        refine rw_off (c := (m.tw != n.tw)) rfl rfl rfl (by first | (rw [c17]; rfl) | simp [c17]) rfl rfl ?_
        refine rw_off (c := (m.tw != n.tw)) rfl rfl rfl (by first | (rw [c17]; rfl) | simp [c17]) rfl rfl ?_
        refine rw_val (v := .bool true) (w' := w8) rfl rfl rfl rfl (by first | (simp [go_sem, sEv, sLook, nbeq, i64_w, -List.getD_eq_getElem?_getD, c17]; done) | (rw [c17]; simp [go_sem, sEv, sLook, nbeq, i64_w, -List.getD_eq_getElem?_getD]; done) | (simp [go_sem, sEv, sLook, nbeq, i64_w, -List.getD_eq_getElem?_getD] <;> omega) | (simp [go_sem, sEv, sLook, nbeq, i64_w, -List.getD_eq_getElem?_getD]; intro h_; exact absurd (by omega) h_)) ?_
        refine rw_val (v := .bool true) (w' := w8) rfl rfl rfl rfl rfl ?_
        refine rw_off (c := true) rfl rfl rfl rfl rfl rfl ?_
        refine rw_off (c := true) rfl rfl rfl rfl rfl rfl ?_
        refine rw_off (c := true) rfl rfl rfl rfl rfl rfl ?_
        refine rw_off (c := true) rfl rfl rfl rfl rfl rfl ?_
        refine rw_off (c := true) rfl rfl rfl rfl rfl rfl ?_
        refine rw_off (c := true) rfl rfl rfl rfl rfl rfl ?_
        refine rw_off (c := true) rfl rfl rfl rfl rfl rfl ?_
        refine rw_val (v := .bool true) (w' := w8) rfl rfl rfl rfl (by simp [go_sem, sEv, sLook, nbeq, i64_w, -List.getD_eq_getElem?_getD]) ?_
        refine rw_val (v := .bool true) (w' := w8) rfl rfl rfl rfl rfl ?_
        refine rw_off (c := true) rfl rfl rfl rfl rfl rfl ?_
        refine rw_off (c := true) rfl rfl rfl rfl rfl rfl ?_
        refine rw_off (c := true) rfl rfl rfl rfl rfl rfl ?_
        refine rw_off (c := true) rfl rfl rfl rfl rfl rfl ?_
        refine rw_off (c := true) rfl rfl rfl rfl rfl rfl ?_
        refine rw_off (c := true) rfl rfl rfl rfl rfl rfl ?_
        refine rw_off (c := true) rfl rfl rfl rfl rfl rfl ?_
        refine rw_val (v := .bool true) (w' := w8) rfl rfl rfl rfl (by simp [go_sem, sEv, sLook, nbeq, i64_w, -List.getD_eq_getElem?_getD]) ?_
        refine rw_end ?_
        refine w_weaken (G' := [(2, .pointer (some ⟨g1, 0, none⟩)), (3, .pointer (some ⟨g7, 0, none⟩)), (4, .bool false), (53, .bool true)]) ⟨rfl, rfl, rfl, rfl, trivial⟩ ?_
        refine w_cond_t rfl rfl rfl ?_
        refine w_seq ?_
        refine w_region ?_
        refine rw_val (v := .bool false) (w' := w8) rfl rfl rfl rfl rfl ?_
        refine rw_end ?_
        refine w_ret (post_ret1 rfl rfl ?_)
        exact ⟨_, rfl, no_iff (fun h_ => by obtain ⟨⟨q1, q2, q3⟩, q4, q5, q6⟩ := (same_iff m n).1 h_; have q7 := congrArg List.length q4; have q8 := congrArg List.length q5; have q9 := congrArg List.length q6; omega), (chain hb3 hb9)⟩
    · have l94 : ¬ m.fr = n.fr := by simpa using c15
      refine rw_off (c := (m.fr != n.fr)) rfl rfl rfl (by first | (rw [c15]; rfl) | simp [c15]) rfl rfl ?_
      refine rw_off (c := (m.fr != n.fr)) rfl rfl rfl (by first | (rw [c15]; rfl) | simp [c15]) rfl rfl ?_
      refine rw_off (c := (m.fr != n.fr)) rfl rfl rfl (by first | (rw [c15]; rfl) | simp [c15]) rfl rfl ?_
      refine rw_off (c := (m.fr != n.fr)) rfl rfl rfl (by first | (rw [c15]; rfl) | simp [c15]) rfl rfl ?_
      refine rw_off (c := (m.fr != n.fr)) rfl rfl rfl (by first | (rw [c15]; rfl) | simp [c15]) rfl rfl ?_
      refine rw_val (v := .bool true) (w' := w8) rfl rfl rfl rfl (by first | (simp [go_sem, sEv, sLook, nbeq, i64_w, -List.getD_eq_getElem?_getD, c15]; done) | (rw [c15]; simp [go_sem, sEv, sLook, nbeq, i64_w, -List.getD_eq_getElem?_getD]; done) | (simp [go_sem, sEv, sLook, nbeq, i64_w, -List.getD_eq_getElem?_getD] <;> omega) | (simp [go_sem, sEv, sLook, nbeq, i64_w, -List.getD_eq_getElem?_getD]; intro h_; exact absurd (by omega) h_)) ?_
      refine rw_val (v := .bool true) (w' := w8) rfl rfl rfl rfl rfl ?_
      refine rw_off (c := true) rfl rfl rfl rfl rfl rfl ?_
      refine rw_off (c := true) rfl rfl rfl rfl rfl rfl ?_
      refine rw_off (c := true) rfl rfl rfl rfl rfl rfl ?_
      refine rw_off (c := true) rfl rfl rfl rfl rfl rfl ?_
      refine rw_off (c := true) rfl rfl rfl rfl rfl rfl ?_
      refine rw_off (c := true) rfl rfl rfl rfl rfl rfl ?_
      refine rw_off (c := true) rfl rfl rfl rfl rfl rfl ?_
      refine rw_val (v := .bool true) (w' := w8) rfl rfl rfl rfl (by simp [go_sem, sEv, sLook, nbeq, i64_w, -List.getD_eq_getElem?_getD]) ?_
      refine rw_val (v := .bool true) (w' := w8) rfl rfl rfl rfl rfl ?_
      refine rw_off (c := true) rfl rfl rfl rfl rfl rfl ?_
      refine rw_off (c := true) rfl rfl rfl rfl rfl rfl ?_
      refine rw_off (c := true) rfl rfl rfl rfl rfl rfl ?_
      refine rw_off (c := true) rfl rfl rfl rfl rfl rfl ?_
      refine rw_off (c := true) rfl rfl rfl rfl rfl rfl ?_
      refine rw_off (c := true) rfl rfl rfl rfl rfl rfl ?_
      refine rw_off (c := true) rfl rfl rfl rfl rfl rfl ?_
      refine rw_val (v := .bool true) (w' := w8) rfl rfl rfl rfl (by simp [go_sem, sEv, sLook, nbeq, i64_w, -List.getD_eq_getElem?_getD]) ?_
      refine rw_val (v := .bool true) (w' := w8) rfl rfl rfl rfl rfl ?_
      refine rw_off (c := true) rfl rfl rfl rfl rfl rfl ?_
      refine rw_off (c := true) rfl rfl rfl rfl rfl rfl ?_
      refine rw_off (c := true) rfl rfl rfl rfl rfl rfl ?_
      refine rw_off (c := true) rfl rfl rfl rfl rfl rfl ?_
      refine rw_off (c := true) rfl rfl rfl rfl rfl rfl ?_
      refine rw_off (c := true) rfl rfl rfl rfl rfl rfl ?_
      refine rw_off (c := true) rfl rfl rfl rfl rfl rfl ?_
      refine rw_val (v := .bool true) (w' := w8) rfl rfl rfl rfl (by simp [go_sem, sEv, sLook, nbeq, i64_w, -List.getD_eq_getElem?_getD]) ?_
      refine rw_end ?_
      refine w_weaken (G' := [(2, .pointer (some ⟨g1, 0, none⟩)), (3, .pointer (some ⟨g7, 0, none⟩)), (4, .bool false), (53, .bool true)]) ⟨rfl, rfl, rfl, rfl, trivial⟩ ?_
      refine w_cond_t rfl rfl rfl ?_
      refine w_seq ?_
      refine w_region ?_
      refine rw_val (v := .bool false) (w' := w8) rfl rfl rfl rfl rfl ?_
      refine rw_end ?_
      refine w_ret (post_ret1 rfl rfl ?_)
      exact ⟨_, rfl, no_iff (fun h_ => by obtain ⟨⟨q1, q2, q3⟩, q4, q5, q6⟩ := (same_iff m n).1 h_; have q7 := congrArg List.length q4; have q8 := congrArg List.length q5; have q9 := congrArg List.length q6; omega), (chain hb3 hb9)⟩
  · have l95 : ¬ m.kind = n.kind := by simpa using c13
    refine rw_off (c := (m.kind != n.kind)) rfl rfl rfl (by first | (rw [c13]; rfl) | simp [c13]) rfl rfl ?_
    refine rw_off (c := (m.kind != n.kind)) rfl rfl rfl (by first | (rw [c13]; rfl) | simp [c13]) rfl rfl ?_
    refine rw_off (c := (m.kind != n.kind)) rfl rfl rfl (by first | (rw [c13]; rfl) | simp [c13]) rfl rfl ?_
    refine rw_off (c := (m.kind != n.kind)) rfl rfl rfl (by first | (rw [c13]; rfl) | simp [c13]) rfl rfl ?_
    refine rw_off (c := (m.kind != n.kind)) rfl rfl rfl (by first | (rw [c13]; rfl) | simp [c13]) rfl rfl ?_
    refine rw_val (v := .bool true) (w' := w8) rfl rfl rfl rfl (by first | (simp [go_sem, sEv, sLook, nbeq, i64_w, -List.getD_eq_getElem?_getD, c13]; done) | (rw [c13]; simp [go_sem, sEv, sLook, nbeq, i64_w, -List.getD_eq_getElem?_getD]; done) | (simp [go_sem, sEv, sLook, nbeq, i64_w, -List.getD_eq_getElem?_getD] <;> omega) | (simp [go_sem, sEv, sLook, nbeq, i64_w, -List.getD_eq_getElem?_getD]; intro h_; exact absurd (by omega) h_)) ?_
    refine rw_val (v := .bool true) (w' := w8) rfl rfl rfl rfl rfl ?_
    refine rw_off (c := true) rfl rfl rfl rfl rfl rfl ?_
    refine rw_off (c := true) rfl rfl rfl rfl rfl rfl ?_
    refine rw_off (c := true) rfl rfl rfl rfl rfl rfl ?_
    refine rw_off (c := true) rfl rfl rfl rfl rfl rfl ?_
    refine rw_off (c := true) rfl rfl rfl rfl rfl rfl ?_
    refine rw_val (v := .bool true) (w' := w8) rfl rfl rfl rfl (by simp [go_sem, sEv, sLook, nbeq, i64_w, -List.getD_eq_getElem?_getD]) ?_
    refine rw_val (v := .bool true) (w' := w8) rfl rfl rfl rfl rfl ?_
    refine rw_off (c := true) rfl rfl rfl rfl rfl rfl ?_
    refine rw_off (c := true) rfl rfl rfl rfl rfl rfl ?_
    refine rw_off (c := true) rfl rfl rfl rfl rfl rfl ?_
    refine rw_off (c := true) rfl rfl rfl rfl rfl rfl ?_
    refine rw_off (c := true) rfl rfl rfl rfl rfl rfl ?_
    refine rw_off (c := true) rfl rfl rfl rfl rfl rfl ?_
    refine rw_off (c := true) rfl rfl rfl rfl rfl rfl ?_
    refine rw_val (v := .bool true) (w' := w8) rfl rfl rfl rfl (by simp [go_sem, sEv, sLook, nbeq, i64_w, -List.getD_eq_getElem?_getD]) ?_
    refine rw_val (v := .bool true) (w' := w8) rfl rfl rfl rfl rfl ?_
    refine rw_off (c := true) rfl rfl rfl rfl rfl rfl ?_
    refine rw_off (c := true) rfl rfl rfl rfl rfl rfl ?_
    refine rw_off (c := true) rfl rfl rfl rfl rfl rfl ?_
    refine rw_off (c := true) rfl rfl rfl rfl rfl rfl ?_
    refine rw_off (c := true) rfl rfl rfl rfl rfl rfl ?_
    refine rw_off (c := true) rfl rfl rfl rfl rfl rfl ?_
    refine rw_off (c := true) rfl rfl rfl rfl rfl rfl ?_
    refine rw_val (v := .bool true) (w' := w8) rfl rfl rfl rfl (by simp [go_sem, sEv, sLook, nbeq, i64_w, -List.getD_eq_getElem?_getD]) ?_
    refine rw_val (v := .bool true) (w' := w8) rfl rfl rfl rfl rfl ?_
    refine rw_off (c := true) rfl rfl rfl rfl rfl rfl ?_
    refine rw_off (c := true) rfl rfl rfl rfl rfl rfl ?_
    refine rw_off (c := true) rfl rfl rfl rfl rfl rfl ?_
    refine rw_off (c := true) rfl rfl rfl rfl rfl rfl ?_
    refine rw_off (c := true) rfl rfl rfl rfl rfl rfl ?_
    refine rw_off (c := true) rfl rfl rfl rfl rfl rfl ?_
    refine rw_off (c := true) rfl rfl rfl rfl rfl rfl ?_
    refine rw_val (v := .bool true) (w' := w8) rfl rfl rfl rfl (by simp [go_sem, sEv, sLook, nbeq, i64_w, -List.getD_eq_getElem?_getD]) ?_
    refine rw_end ?_
    refine w_weaken (G' := [(2, .pointer (some ⟨g1, 0, none⟩)), (3, .pointer (some ⟨g7, 0, none⟩)), (4, .bool false), (53, .bool true)]) ⟨rfl, rfl, rfl, rfl, trivial⟩ ?_
    refine w_cond_t rfl rfl rfl ?_
    refine w_seq ?_
    refine w_region ?_
    refine rw_val (v := .bool false) (w' := w8) rfl rfl rfl rfl rfl ?_
    refine rw_end ?_
    refine w_ret (post_ret1 rfl rfl ?_)
    exact ⟨_, rfl, no_iff (fun h_ => by obtain ⟨⟨q1, q2, q3⟩, q4, q5, q6⟩ := (same_iff m n).1 h_; have q7 := congrArg List.length q4; have q8 := congrArg List.length q5; have q9 := congrArg List.length q6; omega), (chain hb3 hb9)⟩
end Go.Proofs.Ytbbhdohjhipalaa.Ce
end
section
namespace Go.Proofs.Ytbbhdohjhipalaa.Ce
open Go.RowKit Go.Proofs.YtbbhdohjhipalaaW.PrintWords Go.Proofs.YtbbhdohjhipalaaW.PrintLast Go.Proofs.YtbbhdohjhipalaaW.PrintMore
open Go.Proofs.Ytbbhdohjhipalaa.Flow Go.Proofs.Ytbbhdohjhipalaa.PNoteReads
set_option linter.unusedVariables false
theorem nextR_c (x : Int) (r : List Int) (b : Bool) : nextR ⟨x :: r, b⟩ = (x, ⟨r, b⟩) := rfl
theorem countR_c (k : Nat) (m : Int) (r : List Int) (b : Bool) (h : (k : Int) ≤ m) : countR m ⟨(k : Int) :: r, b⟩ = ((k : Int), ⟨r, b⟩) := by
  unfold countR
  rw [nextR_c]
  exact if_neg (by simp only; omega)
theorem numsR_app (l r : List Int) (b : Bool) : ∀ k, k ≤ l.length → numsR k ⟨l ++ r, b⟩ = (l.take k, ⟨l.drop k ++ r, b⟩)
  | 0, _ => by simp [numsR]
  | k + 1, h => by
    have ih := numsR_app l r b k (by omega)
    have e : l.drop k = l[k] :: l.drop (k + 1) := List.drop_eq_getElem_cons (by omega)
    simp only [numsR, ih]
    rw [e, List.cons_append, nextR_c, List.take_succ_eq_append_getElem (by omega)]
theorem opsR_app (l : List OpL) (r : List Int) (b : Bool) : ∀ k, k ≤ l.length → opsR k ⟨opsL l ++ r, b⟩ = (l.take k, ⟨opsL (l.drop k) ++ r, b⟩)
  | 0, _ => by simp [opsR]
  | k + 1, h => by
    have ih := opsR_app l r b k (by omega)
    have e : l.drop k = l[k] :: l.drop (k + 1) := List.drop_eq_getElem_cons (by omega)
    have e2 : opsL (l.drop k) ++ r = l[k].1 :: l[k].2.1 :: l[k].2.2.1 :: l[k].2.2.2.1 :: l[k].2.2.2.2 :: (opsL (l.drop (k + 1)) ++ r) := by
      rw [e]
      rfl
    simp only [opsR, ih, e2]
    rw [List.take_succ_eq_append_getElem (by omega)]
    rfl
theorem entsR_app (l : List EL) (r : List Int) (hl : ∀ x ∈ l, LoOk x.c) : ∀ k, k ≤ l.length → entsR k ⟨entsL l ++ r, false⟩ = (l.take k, ⟨entsL (l.drop k) ++ r, false⟩)
  | 0, _ => by simp [entsR]
  | k + 1, h => by
    have ih := entsR_app l r hl k (by omega)
    have e : l.drop k = l[k] :: l.drop (k + 1) := List.drop_eq_getElem_cons (by omega)
    have e2 : entsL (l.drop k) ++ r = l[k].win :: l[k].key :: (numsC l[k].c ++ (entsL (l.drop (k + 1)) ++ r)) := by
      rw [e]
      show (entL l[k] ++ entsL (l.drop (k + 1))) ++ r = _
      unfold entL
      simp only [List.append_assoc, List.cons_append, List.nil_append]
    have e3 := takeC_back l[k].c (entsL (l.drop (k + 1)) ++ r) (hl _ (List.getElem_mem (by omega)))
    have e4 : cellR ⟨numsC l[k].c ++ (entsL (l.drop (k + 1)) ++ r), false⟩ = (l[k].c, ⟨entsL (l.drop (k + 1)) ++ r, false⟩) := cell_yes e3
    rw [entsR_step ih rfl (by rw [e2]; exact nextR_c _ _ _) (nextR_c _ _ _) e4, List.take_succ_eq_append_getElem (by omega)]
theorem note_back {n : NT} (h1 : n.nums.length ≤ 64) (h2 : n.ops.length ≤ 16) (h3 : n.ents.length ≤ 16) (hl : ∀ x ∈ n.ents, LoOk x.c) : noteR ⟨listN n, false⟩ = (n, ⟨[], false⟩) := by
  have e0 : listN n = n.kind :: n.fr :: n.tw :: (n.nums.length : Int) :: (n.nums ++ ((n.ops.length : Int) :: (opsL n.ops ++ ((n.ents.length : Int) :: (entsL n.ents ++ []))))) := by
    unfold listN
    simp
  rw [e0]
  have a5 := numsR_app n.nums ((n.ops.length : Int) :: (opsL n.ops ++ ((n.ents.length : Int) :: (entsL n.ents ++ [])))) false n.nums.length (Nat.le_refl _)
  rw [List.take_length, List.drop_length] at a5
  have a7 := opsR_app n.ops ((n.ents.length : Int) :: (entsL n.ents ++ [])) false n.ops.length (Nat.le_refl _)
  rw [List.take_length, List.drop_length] at a7
  have a9 := entsR_app n.ents [] hl n.ents.length (Nat.le_refl _)
  rw [List.take_length, List.drop_length] at a9
  exact note_eq (nextR_c _ _ _) (nextR_c _ _ _) (nextR_c _ _ _) (countR_c _ _ _ _ (by omega)) a5 (countR_c _ _ _ _ (by omega)) a7 (countR_c _ _ _ _ (by omega)) a9
theorem numsR_len0 : ∀ (k : Nat) (s : RS), (numsR k s).1.length = k
  | 0, s => rfl
  | k + 1, s => by simp only [numsR, List.length_append, List.length_cons, List.length_nil, numsR_len0 k s]
theorem opsR_len0 : ∀ (k : Nat) (s : RS), (opsR k s).1.length = k
  | 0, s => rfl
  | k + 1, s => by simp only [opsR, List.length_append, List.length_cons, List.length_nil, opsR_len0 k s]
theorem nextR_s {s s2 : RS} {x : Int} (h : nextR s = (x, s2)) (hb : s2.bad = false) : s.bad = false ∧ s.xs = x :: s2.xs := by
  unfold nextR at h
  split at h
  · cases h
    cases hb
  · rename_i e
    cases h
    exact ⟨hb, e⟩
theorem countR_s {s s2 : RS} {m y : Int} (h : countR m s = (y, s2)) (hb : s2.bad = false) : s.bad = false ∧ s.xs = y :: s2.xs := by
  unfold countR at h
  split at h
  · cases h
    cases hb
  · exact nextR_s h hb
theorem numsR_s {s : RS} : ∀ (k : Nat) {s2 : RS} {l : List Int}, numsR k s = (l, s2) → s2.bad = false → s.bad = false ∧ s.xs = l ++ s2.xs
  | 0, s2, l, h, hb => by
    cases h
    exact ⟨hb, rfl⟩
  | k + 1, s2, l, h, hb => by
    rcases e1 : numsR k s with ⟨l1, sa⟩
    rcases e2 : nextR sa with ⟨x, sb⟩
    rw [numsR_step e1 e2] at h
    cases h
    obtain ⟨h1, h2⟩ := nextR_s e2 hb
    obtain ⟨h3, h4⟩ := numsR_s k e1 h1
    exact ⟨h3, by rw [h4, h2, List.append_assoc]; rfl⟩
theorem opsR_s {s : RS} : ∀ (k : Nat) {s2 : RS} {l : List OpL}, opsR k s = (l, s2) → s2.bad = false → s.bad = false ∧ s.xs = opsL l ++ s2.xs
  | 0, s2, l, h, hb => by
    cases h
    exact ⟨hb, rfl⟩
  | k + 1, s2, l, h, hb => by
    rcases e1 : opsR k s with ⟨l1, sa⟩
    rcases f1 : nextR sa with ⟨x1, b1⟩
    rcases f2 : nextR b1 with ⟨x2, b2⟩
    rcases f3 : nextR b2 with ⟨x3, b3⟩
    rcases f4 : nextR b3 with ⟨x4, b4⟩
    rcases f5 : nextR b4 with ⟨x5, b5⟩
    rw [opsR_step e1 (of_5 (of_4 (of_3 (of_2 (of_1 (of_0 sa) f1) f2) f3) f4) f5)] at h
    cases h
    obtain ⟨h5, g5⟩ := nextR_s f5 hb
    obtain ⟨h4, g4⟩ := nextR_s f4 h5
    obtain ⟨h3, g3⟩ := nextR_s f3 h4
    obtain ⟨h2, g2⟩ := nextR_s f2 h3
    obtain ⟨h1, g1⟩ := nextR_s f1 h2
    obtain ⟨h0, g0⟩ := opsR_s k e1 h1
    refine ⟨h0, ?_⟩
    rw [g0, g1, g2, g3, g4, g5]
    simp [opsL, opL]
theorem cellR_s {s s2 : RS} {c : CL} (h : cellR s = (c, s2)) (hb : s2.bad = false) (hI : ∀ x ∈ s.xs, I64 x) : s.bad = false ∧ s.xs = numsC c ++ s2.xs := by
  unfold cellR at h
  split at h
  · cases h
    cases hb
  · rename_i c1 r1 e
    cases h
    have h2 : I64 (s.xs.getD 2 0) := by
      rw [List.getD_eq_getElem?_getD]
      rcases Nat.lt_or_ge 2 s.xs.length with hl | hl
      · rw [List.getElem?_eq_getElem hl]
        exact hI _ (List.getElem_mem hl)
      · rw [List.getElem?_eq_none hl]
        exact ⟨by decide, by decide⟩
    exact ⟨hb, (takeC_nums e h2).1.symm⟩
theorem entsR_s {s : RS} (hI : ∀ x ∈ s.xs, I64 x) : ∀ (k : Nat) {s2 : RS} {l : List EL}, entsR k s = (l, s2) → s2.bad = false → s.bad = false ∧ s.xs = entsL l ++ s2.xs ∧ l.length = k
  | 0, s2, l, h, hb => by
    cases h
    exact ⟨hb, rfl, rfl⟩
  | k + 1, s2, l, h, hb => by
    rcases e1 : entsR k s with ⟨l1, sa⟩
    rcases f1 : nextR sa with ⟨x1, b1⟩
    rcases f2 : nextR b1 with ⟨x2, b2⟩
    rcases f3 : cellR b2 with ⟨c, b3⟩
    cases hsa : sa.bad with
    | true =>
      rw [entsR_bad e1 hsa (k + 1) (by omega)] at h
      cases h
      rw [hsa] at hb
      cases hb
    | false =>
      rw [entsR_step e1 hsa f1 f2 f3] at h
      cases h
      obtain ⟨h0, g0, l0⟩ := entsR_s hI k e1 hsa
      have hI2 : ∀ x ∈ sa.xs, I64 x := fun x hx => hI x (by rw [g0]; exact List.mem_append_right _ hx)
      have n1 := next_le f1
      have hb2 : b2.bad = false := by
        cases e : b2.bad with
        | false => rfl
        | true =>
          unfold cellR at f3
          split at f3
          · cases f3
            cases hb
          · cases f3
            rw [e] at hb
            cases hb
      obtain ⟨h2, g2⟩ := nextR_s f2 hb2
      obtain ⟨h1, g1⟩ := nextR_s f1 h2
      have hI3 : ∀ x ∈ b2.xs, I64 x := fun x hx => hI2 x (by rw [g1, g2]; simp [hx])
      obtain ⟨h3, g3⟩ := cellR_s f3 hb hI3
      refine ⟨h0, ?_, by simp [l0]⟩
      rw [g0, g1, g2, g3]
      simp [entsL, entL]
theorem note_sound {l : List Int} {n : NT} {s9 : RS} (hI : ∀ x ∈ l, I64 x) (h : noteR ⟨l, false⟩ = (n, s9)) (hb : s9.bad = false) (hx : s9.xs = []) : listN n = l := by
  rcases h1 : nextR ⟨l, false⟩ with ⟨x1, s1⟩
  rcases h2 : nextR s1 with ⟨x2, s2⟩
  rcases h3 : nextR s2 with ⟨x3, s3⟩
  rcases h4 : countR 64 s3 with ⟨y1, s4⟩
  obtain ⟨k1, _, rfl, _⟩ := count_nat h4 (by decide)
  rcases h5 : numsR k1 s4 with ⟨l1, s5⟩
  rcases h6 : countR 16 s5 with ⟨y2, s6⟩
  obtain ⟨k2, _, rfl, _⟩ := count_nat h6 (by decide)
  rcases h7 : opsR k2 s6 with ⟨l2, s7⟩
  rcases h8 : countR 16 s7 with ⟨y3, s8⟩
  obtain ⟨k3, _, rfl, _⟩ := count_nat h8 (by decide)
  rcases h9 : entsR k3 s8 with ⟨l3, sz⟩
  rw [note_eq h1 h2 h3 h4 h5 h6 h7 h8 h9] at h
  cases h
  have hb8 : s8.bad = false := by
    cases e : s8.bad with
    | false => rfl
    | true =>
      have q := entsR_bad (s := s8) (j := 0) rfl e k3 (Nat.zero_le _)
      rw [q] at h9
      cases h9
      rw [e] at hb
      cases hb
  obtain ⟨a8, g8⟩ := countR_s h8 hb8
  obtain ⟨a7, g7⟩ := opsR_s k2 h7 a8
  obtain ⟨a6, g6⟩ := countR_s h6 a7
  obtain ⟨a5, g5⟩ := numsR_s k1 h5 a6
  obtain ⟨a4, g4⟩ := countR_s h4 a5
  obtain ⟨a3, g3⟩ := nextR_s h3 a4
  obtain ⟨a2, g2⟩ := nextR_s h2 a3
  obtain ⟨a1, g1⟩ := nextR_s h1 a2
  have g1' : l = x1 :: s1.xs := g1
  have e0 : l = x1 :: x2 :: x3 :: (k1 : Int) :: (l1 ++ ((k2 : Int) :: (opsL l2 ++ ((k3 : Int) :: s8.xs)))) := by rw [g1', g2, g3, g4, g5, g6, g7, g8]
  have hI8 : ∀ x ∈ s8.xs, I64 x := fun x hx => hI x (by rw [e0]; simp [hx])
  obtain ⟨_, g9, n3⟩ := entsR_s hI8 k3 h9 hb
  have n1 : l1.length = k1 := by have q := numsR_len0 k1 s4; rw [h5] at q; exact q
  have n2 : l2.length = k2 := by have q := opsR_len0 k2 s6; rw [h7] at q; exact q
  rw [hx, List.append_nil] at g9
  rw [e0, g9]
  unfold listN
  simp [n1, n2, n3]
end Go.Proofs.Ytbbhdohjhipalaa.Ce
end
section
namespace Go.Proofs.Ytbbhdohjhipalaa.Ce
open Go.RowKit Go.Proofs.YtbbhdohjhipalaaW.PrintWords Go.Proofs.YtbbhdohjhipalaaW.PrintLast Go.Proofs.YtbbhdohjhipalaaW.PrintMore
open Go.Proofs.Ytbbhdohjhipalaa.Flow Go.Proofs.Ytbbhdohjhipalaa.PNoteReads
set_option linter.unusedVariables false
theorem numsP_s : ∀ (K : Nat) (b x r : List Int), Bytes b → numsP K b 4096 x = (r, true) → ∃ ys, r = x ++ ys ∧ PB ys = b ∧ ∀ y ∈ ys, I64 y
  | 0, b, x, r, hb, h => by
    rw [numsP] at h
    cases h
  | K + 1, b, x, r, hb, h => by
    rw [numsP] at h
    by_cases c1 : b.length = 0
    · rw [if_pos c1] at h
      split at h
      · cases h
      · cases h
        exact ⟨[], by simp, by rw [List.length_eq_zero_iff.1 c1]; rfl, by simp⟩
    · rw [if_neg c1] at h
      by_cases c2 : (takeP b).2 = 0
      · rw [if_pos c2] at h
        cases h
      · rw [if_neg c2] at h
        obtain ⟨t1, t2, t3, t4⟩ := take_back b hb c2
        obtain ⟨ys, e1, e2, e3⟩ := numsP_s K _ _ _ (hb.drop _) h
        refine ⟨(takeP b).1 :: ys, by rw [e1]; simp, ?_, ?_⟩
        · rw [PB_cons, e2]
          exact t1
        · intro y hy
          rcases List.mem_cons.1 hy with rfl | hy
          · exact t2
          · exact e3 y hy
theorem numsP_ok : ∀ (ys : List Int) (K : Nat) (x : List Int), (∀ y ∈ ys, I64 y) → ys.length + 1 ≤ K → x.length + ys.length ≤ 4096 → numsP K (PB ys) 4096 x = (x ++ ys, true)
  | [], K, x, hy, hK, hl => by
    obtain ⟨k, rfl⟩ : ∃ k, K = k + 1 := ⟨K - 1, by simp at hK; omega⟩
    rw [numsP, if_pos (show (PB []).length = 0 from rfl), if_neg (by simp at hl; omega), List.append_nil]
  | y :: t, K, x, hy, hK, hl => by
    obtain ⟨k, rfl⟩ : ∃ k, K = k + 1 := ⟨K - 1, by simp at hK; omega⟩
    have h1 := hy y (by simp)
    have hn := numB_len y
    have ht := take_num y h1 (PB t)
    have hd : (numB y ++ PB t).drop (1 + szN (tn y)) = PB t := by rw [← hn, List.drop_left]
    rw [numsP, PB_cons, if_neg (by rw [List.length_append, hn]; omega), ht, if_neg (by simp only; omega)]
    simp only [hd]
    rw [numsP_ok t k (x ++ [y]) (fun z hz => hy z (by simp [hz])) (by simp at hK; omega) (by simp at hl ⊢; omega)]
    simp
theorem NL_ok {ys : List Int} (hy : ∀ y ∈ ys, I64 y) (hl : ys.length ≤ 4096) : NL (PB ys) = ys ∧ NO (PB ys) = true := by
  have hp : ys.length ≤ (PB ys).length := by
    clear hl
    induction ys with
    | nil => exact Nat.le_refl _
    | cons y t ih =>
      have h := ih (fun z hz => hy z (by simp [hz]))
      have hn := numB_len y
      rw [PB_cons, List.length_append, List.length_cons]
      omega
  have h := numsP_ok ys ((PB ys).length + 1) [] hy (by omega) (by simpa using hl)
  unfold NL NO
  rw [h]
  exact ⟨rfl, rfl⟩
theorem NL_s {b : List Int} (hb : Bytes b) (h : NO b = true) : PB (NL b) = b ∧ ∀ y ∈ NL b, I64 y := by
  obtain ⟨ys, e1, e2, e3⟩ := numsP_s (b.length + 1) b [] (NL b) hb (Prod.ext rfl h)
  rw [List.nil_append] at e1
  rw [e1]
  exact ⟨e2, e3⟩
theorem unframe {p : List Int} (hl : p.length ≤ 16376) : wholeP (frameB p) ≠ 0 ∧ UN (frameB p) = p ∧ UR (frameB p) = [] := by
  have h := whole_frame p [] hl
  rw [List.append_nil] at h
  have hf : (frameB p).length = 8 + p.length := by
    unfold frameB
    rw [if_neg (by omega)]
    simp only [List.length_append, lowl_len]
  have h0 : wholeP (frameB p) ≠ 0 := by omega
  refine ⟨h0, ?_, ?_⟩
  · unfold UN
    rw [if_neg h0, h, ← hf, List.take_length]
    unfold frameB
    rw [if_neg (by omega), List.drop_append_of_le_length (by simp only [List.length_append, lowl_len]; omega), List.drop_of_length_le (by simp only [List.length_append, lowl_len]; omega), List.nil_append]
  · unfold UR
    rw [if_neg h0, h, ← hf, List.drop_length]
theorem dec_enc {n : NT} (hg : goodN n = true) (hI : ∀ y ∈ listN n, I64 y) (hl : ∀ x ∈ n.ents, LoOk x.c) (hp : (PB (listN n)).length ≤ 16376) : decN (EB n) = (n, none) := by
  obtain ⟨u1, u2, u3⟩ := unframe hp
  obtain ⟨z1, z2, z3⟩ := good_sz hg
  have hll : (listN n).length ≤ 4096 := by
    have h1 := opsL_len n.ops
    have h2 := entsL_len n.ents
    unfold listN
    simp only [List.length_append, List.length_cons, List.length_nil]
    omega
  obtain ⟨v1, v2⟩ := NL_ok hI hll
  rw [(eb_yes hg).1]
  unfold decN
  rw [u2, u3, v1, v2, note_back (by omega) z2 z3 hl, if_neg (by simp; exact u1), if_neg (by simp), if_neg (by rw [hg]; simp)]
theorem frame_whole {b : List Int} (hb : Bytes b) (h : wholeP b ≠ 0) : frameB ((b.take (wholeP b)).drop 8) = b.take (wholeP b) := by
  have h8 : ¬ b.length < 8 := fun c => h (by unfold wholeP; rw [if_pos c])
  have h16 : ¬ 16376 < valN (b.take 4) := fun c => h (by unfold wholeP; rw [if_neg h8, if_pos c])
  have hl : ¬ b.length < 8 + valN (b.take 4) := fun c => h (by unfold wholeP; rw [if_neg h8, if_neg h16, if_pos c])
  have q := fin_whole b hb _ rfl (by omega) (by omega)
  by_cases c : frameB ((b.take (8 + valN (b.take 4))).drop 8) = b.take (8 + valN (b.take 4))
  · rw [if_pos c] at q
    rw [q]
    exact c
  · rw [if_neg c] at q
    exact absurd q h
theorem enc_dec {b : List Int} {n : NT} (hb : Bytes b) (h : decN b = (n, none)) : goodN n = true ∧ EB n = b := by
  unfold decN at h
  split at h
  · cases h
  · rename_i c1
    split at h
    · cases h
    · rename_i c2
      split at h
      · cases h
      · rename_i c3
        have h1 : wholeP b ≠ 0 := fun e => c1 (.inl e)
        have h2 : (UR b).length = 0 := by
          rcases Nat.eq_zero_or_pos (UR b).length with e | e
          · exact e
          · exact absurd (.inr e) c1
        have h3 : NO (UN b) = true := by simpa using c2
        rcases hn : noteR ⟨NL (UN b), false⟩ with ⟨n9, s9⟩
        rw [hn] at c3 h
        cases h
        have h4 : s9.bad = false := by
          cases e : s9.bad with
          | false => rfl
          | true => exact absurd (.inl e) c3
        have h5 : s9.xs = [] := by
          rcases Nat.eq_zero_or_pos s9.xs.length with e | e
          · exact List.length_eq_zero_iff.1 e
          · exact absurd (.inr (.inl e)) c3
        have h6 : goodN n9 = true := by
          cases e : goodN n9 with
          | true => rfl
          | false => exact absurd (.inr (.inr e)) c3
        obtain ⟨p1, p2⟩ := NL_s (UN_bytes hb) h3
        have h7 := note_sound p2 hn h4 h5
        refine ⟨h6, ?_⟩
        rw [(eb_yes h6).1, h7, p1]
        have hw := frame_whole hb h1
        have hU : UN b = (b.take (wholeP b)).drop 8 := by unfold UN; rw [if_neg h1]
        have hR : (b.drop (wholeP b)).length = 0 := by
          unfold UR at h2
          rw [if_neg h1] at h2
          exact h2
        rw [List.length_drop] at hR
        rw [hU, hw, List.take_of_length_le (by omega)]
end Go.Proofs.Ytbbhdohjhipalaa.Ce
end
section
namespace Go.Proofs.Ytbbhdohjhipalaa.Ce
open Go.RowKit Go.Proofs.YtbbhdohjhipalaaW.PrintWords Go.Proofs.YtbbhdohjhipalaaW.PrintLast Go.Proofs.YtbbhdohjhipalaaW.PrintMore
open Go.Proofs.Ytbbhdohjhipalaa.Flow Go.Proofs.Ytbbhdohjhipalaa.PNoteReads
set_option linter.unusedVariables false
theorem small_sz : ∀ k : Fin 65, szN (tn ((k.val : Nat) : Int)) ≤ 1 := by decide +kernel
theorem small_num (k : Nat) (h : k < 65) : (numB (k : Int)).length ≤ 2 := by
  have h1 := small_sz ⟨k, h⟩
  have h2 := numB_len (k : Int)
  simp only at h1
  omega
theorem PB_app (a b : List Int) : PB (a ++ b) = PB a ++ PB b := by unfold PB; simp
theorem one_len {y : Int} (h : I64 y) : (numB y).length ≤ 9 := by
  have h1 := szN_le (tn_lt h)
  have h2 := numB_len y
  omega
theorem pr_bytes (h : Fin 65 → Int) : ∀ k, k ≤ 65 → (∀ y ∈ flatP (pr h k), I64 y) → (PB (flatP (pr h k))).length ≤ 11 * k
  | 0, _, _ => by simp [pr, flatP, PB]
  | k + 1, hk, hI => by
    rw [pr] at hI ⊢
    split
    · rename_i e
      rw [if_pos e] at hI
      have := pr_bytes h k (by omega) hI
      omega
    · rename_i e
      rw [if_neg e, flatP_append] at hI
      have h1 := pr_bytes h k (by omega) (fun y hy => hI y (List.mem_append_left _ hy))
      have h2 := small_num k (by omega)
      have h3 := one_len (hI (atF h k) (List.mem_append_right _ (by simp [flatP])))
      rw [flatP_append, PB_app, List.length_append]
      have e2 : PB (flatP [(((k : Nat) : Int), atF h k)]) = numB (k : Int) ++ (numB (atF h k) ++ []) := rfl
      rw [e2]
      simp only [List.length_append, List.length_nil]
      omega
theorem entL_bytes (x : EL) (hI : ∀ y ∈ entL x, I64 y) : (PB (entL x)).length ≤ 823 := by
  have e : entL x = ([x.win, x.key] ++ headC x.c ((pr x.c.h 65).length : Int)) ++ flatP (pr x.c.h 65) := by
    unfold entL numsC
    rw [List.append_assoc]
  rw [e] at hI ⊢
  have h1 := PB_len _ (fun y hy => hI y (List.mem_append_left _ hy))
  have h2 := pr_bytes x.c.h 65 (Nat.le_refl _) (fun y hy => hI y (List.mem_append_right _ hy))
  have h3 : ([x.win, x.key] ++ headC x.c ((pr x.c.h 65).length : Int)).length = 12 := rfl
  rw [PB_app, List.length_append]
  omega
theorem entsL_bytes : ∀ l : List EL, (∀ y ∈ entsL l, I64 y) → (PB (entsL l)).length ≤ 823 * l.length
  | [], _ => by simp [entsL, PB]
  | x :: l, hI => by
    have e : entsL (x :: l) = entL x ++ entsL l := rfl
    rw [e] at hI ⊢
    have h1 := entL_bytes x (fun y hy => hI y (List.mem_append_left _ hy))
    have h2 := entsL_bytes l (fun y hy => hI y (List.mem_append_right _ hy))
    rw [PB_app, List.length_append, List.length_cons]
    omega
theorem good_bytes {n : NT} (hg : goodN n = true) (hI : ∀ y ∈ listN n, I64 y) : (PB (listN n)).length ≤ 16376 := by
  have hs : shapeK n.kind ≠ none := fun e => by rw [good_no e] at hg; cases hg
  rcases e : shapeK n.kind with _ | ⟨a, b, c⟩
  · exact absurd e hs
  · obtain ⟨⟨_, _, _, _, _, h6, _, h8, h9, h10, h11⟩, _⟩ := (good_iff e).1 hg
    have hb : b ≤ 39 ∧ (n.kind = 8 → b = 6) := by
      unfold shapeK at e
      repeat' split at e
      all_goals first | (cases e; refine ⟨by omega, fun q => ?_⟩; omega) | cases e
    have eL : listN n = ((((([n.kind, n.fr, n.tw, (n.nums.length : Int)] ++ n.nums) ++ [(n.ops.length : Int)]) ++ opsL n.ops) ++ [(n.ents.length : Int)]) ++ entsL n.ents) := rfl
    rw [eL] at hI ⊢
    have h1 := PB_len _ (fun y hy => hI y (List.mem_append_left _ hy))
    have h2 := entsL_bytes n.ents (fun y hy => hI y (List.mem_append_right _ hy))
    have h3 := opsL_len n.ops
    rw [PB_app, List.length_append]
    simp only [List.length_append, List.length_cons, List.length_nil, h3] at h1
    rcases h11 with h11 | h11
    · omega
    · have hb6 := hb.2 h11
      rcases h9 with h9 | h9
      · omega
      · rw [h11] at h9
        cases h9
end Go.Proofs.Ytbbhdohjhipalaa.Ce
end
section
namespace Go.Proofs.Ytbbhdohjhipalaa.Ce
open Go.RowKit Go.Proofs.YtbbhdohjhipalaaW.PrintWords Go.Proofs.YtbbhdohjhipalaaW.PrintLast Go.Proofs.YtbbhdohjhipalaaW.PrintMore
open Go.Proofs.Ytbbhdohjhipalaa.Flow Go.Proofs.Ytbbhdohjhipalaa.PNoteReads
set_option linter.unusedVariables false
set_option linter.unusedSimpArgs false
def CellI (c : CL) : Prop := LoOk c ∧ (I64 c.cnt ∧ I64 c.hi ∧ I64 c.mn ∧ I64 c.mx ∧ I64 c.t ∧ I64 c.src ∧ I64 c.seq ∧ I64 c.v) ∧ ∀ i, I64 (c.h i)
def EntI (x : EL) : Prop := I64 x.win ∧ I64 x.key ∧ CellI x.c
def OpI (o : OpL) : Prop := I64 o.1 ∧ I64 o.2.1 ∧ I64 o.2.2.1 ∧ I64 o.2.2.2.1 ∧ I64 o.2.2.2.2
def NoteI (n : NT) : Prop := (I64 n.kind ∧ I64 n.fr ∧ I64 n.tw) ∧ (∀ y ∈ n.nums, I64 y) ∧ (∀ o ∈ n.ops, OpI o) ∧ (∀ x ∈ n.ents, EntI x)
theorem atF_I {h : Fin 65 → Int} (hh : ∀ i, I64 (h i)) (k : Nat) : I64 (atF h k) := by
  unfold atF
  split
  · exact hh _
  · exact ⟨by decide, by decide⟩
theorem I64_nat {k : Nat} (h : k ≤ 1000000) : I64 ((k : Nat) : Int) := ⟨by omega, by omega⟩
theorem pr_I {h : Fin 65 → Int} (hh : ∀ i, I64 (h i)) : ∀ k, k ≤ 65 → ∀ y ∈ flatP (pr h k), I64 y
  | 0, _ => fun y hy => by simp [pr, flatP] at hy
  | k + 1, hk => fun y hy => by
    by_cases e : atF h k = 0
    · rw [pr_zero h k e] at hy
      exact pr_I hh k (by omega) y hy
    · rw [pr_more h k e, flatP_append] at hy
      rcases List.mem_append.1 hy with hy | hy
      · exact pr_I hh k (by omega) y hy
      · simp only [flatP, List.mem_cons, List.not_mem_nil, or_false] at hy
        rcases hy with rfl | rfl
        · exact I64_nat (by omega)
        · exact atF_I hh k
theorem wrap_I (x : Int) : I64 (wrap64 x) := by
  unfold I64 wrap64
  omega
theorem numsC_I {c : CL} (h : CellI c) : ∀ y ∈ numsC c, I64 y := by
  obtain ⟨_, ⟨h0, h1, h2, h3, h4, h5, h6, h7⟩, h8⟩ := h
  have hp := pr_len c.h 65
  intro y hy
  unfold numsC headC at hy
  rcases List.mem_append.1 hy with hy | hy
  · simp only [List.mem_cons, List.not_mem_nil, or_false] at hy
    rcases hy with rfl | rfl | rfl | rfl | rfl | rfl | rfl | rfl | rfl | rfl
    · exact h0
    · exact h1
    · exact wrap_I _
    · exact h2
    · exact h3
    · exact h4
    · exact h5
    · exact h6
    · exact h7
    · exact I64_nat (by omega)
  · exact pr_I h8 65 (Nat.le_refl _) y hy
theorem listN_I {n : NT} (h : NoteI n) (hl : n.nums.length + n.ops.length + n.ents.length ≤ 1000) : ∀ y ∈ listN n, I64 y := by
  obtain ⟨⟨h1, h2, h3⟩, h4, h5, h6⟩ := h
  intro y hy
  unfold listN at hy
  rcases List.mem_append.1 hy with hy | hy
  · rcases List.mem_append.1 hy with hy | hy
    · rcases List.mem_append.1 hy with hy | hy
      · rcases List.mem_append.1 hy with hy | hy
        · rcases List.mem_append.1 hy with hy | hy
          · simp only [List.mem_cons, List.not_mem_nil, or_false] at hy
            rcases hy with rfl | rfl | rfl | rfl
            · exact h1
            · exact h2
            · exact h3
            · exact I64_nat (by omega)
          · exact h4 y hy
        · rw [List.mem_singleton.1 hy]
          exact I64_nat (by omega)
      · unfold opsL at hy
        rw [List.mem_flatten] at hy
        obtain ⟨l, hl, hy⟩ := hy
        rw [List.mem_map] at hl
        obtain ⟨o, ho, rfl⟩ := hl
        obtain ⟨q1, q2, q3, q4, q5⟩ := h5 o ho
        simp only [opL, List.mem_cons, List.not_mem_nil, or_false] at hy
        rcases hy with rfl | rfl | rfl | rfl | rfl <;> assumption
    · rw [List.mem_singleton.1 hy]
      exact I64_nat (by omega)
  · unfold entsL at hy
    rw [List.mem_flatten] at hy
    obtain ⟨l, hl, hy⟩ := hy
    rw [List.mem_map] at hl
    obtain ⟨x, hx, rfl⟩ := hl
    obtain ⟨q1, q2, q3⟩ := h6 x hx
    unfold entL at hy
    rcases List.mem_append.1 hy with hy | hy
    · simp only [List.mem_cons, List.not_mem_nil, or_false] at hy
      rcases hy with rfl | rfl
      · exact q1
      · exact q2
    · exact numsC_I q3 y hy
theorem opn_histI {H : Type} {enc : TypeId × Value → H} {W : World} : Opn enc Try.prog W 79 kHist (fun f => ∀ i, I64 (f i)) := fun m cs y h => by
  obtain ⟨xs, n, _, _, hcl, hxl, hg⟩ := DataW.trod_array Try.underlying79 h
  have hc3 : Try.prog.cellsOf 3 = 1 := by kernel_rfl
  have hcH : Try.prog.cellsOf 79 = 65 := by kernel_rfl
  have each : ∀ i : Fin 65, ∃ x : Int, cs[i.val]? = some (.int .i64 x) ∧ I64 x := fun i => by
    have h1 := hg i.val i.isLt
    have hi : i.val < xs.length := by rw [hxl]; exact i.isLt
    rw [List.getElem?_eq_getElem hi] at h1
    obtain ⟨x, hx, hw⟩ := opn_int (enc := enc) (W := W) Try.underlying3 _ _ _ h1
    have hx' : (cs.drop (i.val * 1)).take 1 = [.int .i64 x] := by rw [hc3] at hx; exact hx
    refine ⟨x, ?_, bounds_i64 hw⟩
    have h2 : ((cs.drop (i.val * 1)).take 1)[0]? = some (.int .i64 x) := by rw [hx']; rfl
    rw [List.getElem?_take_of_lt (by omega), List.getElem?_drop, Nat.mul_one, Nat.add_zero] at h2
    exact h2
  obtain ⟨f, hf⟩ := Classical.skolem.1 each
  refine ⟨f, ?_, fun i => (hf i).2⟩
  show cs = encH f
  apply List.ext_getElem?
  intro j
  by_cases hj : j < 65
  · rw [encH_get f j hj]
    exact (hf ⟨j, hj⟩).1
  · rw [List.getElem?_eq_none (by rw [hcl, hcH]; omega), List.getElem?_eq_none (by rw [encH_len]; omega)]
theorem enc_ok {n : NT} (hg : goodN n = true) (hI : ∀ y ∈ listN n, I64 y) : EE n = none ∧ (PB (listN n)).length ≤ 16376 := by
  have h := good_bytes hg hI
  refine ⟨?_, h⟩
  rw [(eb_yes hg).2]
  unfold PNoteReads.frameE
  rw [if_neg (by omega)]
theorem dec_I {b : List Int} {n : NT} (hb : Bytes b) (h : decN b = (n, none)) : ∀ y ∈ listN n, I64 y := by
  unfold decN at h
  split at h
  · cases h
  · split at h
    · cases h
    · rename_i c1 c2
      split at h
      · cases h
      · rename_i c3
        have h3 : NO (UN b) = true := by simpa using c2
        rcases hn : noteR ⟨NL (UN b), false⟩ with ⟨n9, s9⟩
        rw [hn] at c3 h
        cases h
        have h4 : s9.bad = false := by
          cases e : s9.bad with
          | false => rfl
          | true => exact absurd (.inl e) c3
        have h5 : s9.xs = [] := by
          rcases Nat.eq_zero_or_pos s9.xs.length with e | e
          · exact List.length_eq_zero_iff.1 e
          · exact absurd (.inr (.inl e)) c3
        obtain ⟨p1, p2⟩ := NL_s (UN_bytes hb) h3
        rw [note_sound p2 hn h4 h5]
        exact p2
theorem eb_facts {n : NT} (hg : goodN n = true) (hI : ∀ y ∈ listN n, I64 y) : Bytes (EB n) ∧ (EB n).length ≤ 16384 := by
  have h := good_bytes hg hI
  rw [(eb_yes hg).1]
  refine ⟨frameB_bytes _ (PB_bytes _ hI), ?_⟩
  unfold frameB
  rw [if_neg (by omega), List.length_append, List.length_append, lowl_len, lowl_len]
  omega
theorem dec_cases (b : List Int) : decN b = (NT.zero, some 3) ∨ decN b = (NT.zero, some 4) ∨ ∃ m, decN b = (m, none) := by
  unfold decN
  split
  · exact .inl rfl
  · split
    · exact .inr (.inl rfl)
    · split
      · exact .inr (.inl rfl)
      · exact .inr (.inr ⟨_, rfl⟩)
end Go.Proofs.Ytbbhdohjhipalaa.Ce
end
section
namespace Go.Proofs.Ytbbhdohjhipalaa.Ce
open Go.RowKit Go.Proofs.YtbbhdohjhipalaaW.PrintWords Go.Proofs.YtbbhdohjhipalaaW.PrintLast Go.Proofs.YtbbhdohjhipalaaW.PrintMore
open Go.Proofs.Ytbbhdohjhipalaa.Flow
open Go.Proofs.Ytbbhdohjhipalaa.PNoteReads
set_option linter.unusedVariables false
set_option linter.unusedSimpArgs false
set_option maxRecDepth 100000 in
theorem run_err_nec (o : Option Int) (c : Int) (w : World) : (binOp .neq 32 (errT o) (.iface 48 (.int .i64 c))).run Try.prog w = .ok (.bool (!decide (o = some c))) w := by
  cases o with
  | none =>
    have h : (binOp .neq 32 .nilIface (.iface 48 (.int .i64 c))).run Try.prog w = .ok (.bool true) w := by kernel_rfl
    have e : (!decide ((none : Option Int) = some c)) = true := by simp
    rw [e]
    exact h
  | some d =>
    have e : decide (some d = some c) = (d == c) := by
      rw [Bool.eq_iff_iff]
      simp
    rw [e]
    have h1 := int_step 9998 d c w
    have h2 : (Op.equalIn Op.maxDepth 32 (errT (some d)) (.iface 48 (.int .i64 c))).run Try.prog w = .ok (d == c) w := h1
    simp only [errT] at h2 ⊢
    simp [binOp, Op.equal, h2]
theorem guard_err_nec (t u : Nat) (o : Option Int) (c : Int) (w : World) : (do eqGuard .neq 32 (.tmp t) (.tmp u) (errT o) (.iface 48 (.int .i64 c)); binOp .neq 32 (errT o) (.iface 48 (.int .i64 c)) : Sem Value).run Try.prog w = .ok (.bool (!decide (o = some c))) w := by
  have h := run_err_nec o c w
  cases o with
  | none => simpa [eqGuard, errT] using h
  | some c => simpa [eqGuard, errT] using h
theorem enc_good (w : World) (n : NT) (A3 : Option Addr) (c3 : Nat) (A4 : Option Addr) (c4 : Nat) (A5 : Option Addr) (c5 : Nat) (hn3 : (Kd.int .i64).C w A3 n.nums.length n.nums) (hc3 : n.nums.length ≤ c3) (hn4 : kOp.C w A4 n.ops.length n.ops) (hc4 : n.ops.length ≤ c4) (hn5 : kEntry.C w A5 n.ents.length n.ents) (hc5 : n.ents.length ≤ c5) (hk3 : n.nums.length ≤ 140737488355328) (hk4 : n.ops.length ≤ 140737488355328) (hk5 : n.ents.length ≤ 140737488355328) (hI : ∀ y ∈ listN n, I64 y) (hg : goodN n = true) {b : List Int} (he : EB n = b) : Calls Try.prog 12 #[.agg #[.int .i64 n.kind, .int .i64 n.fr, .int .i64 n.tw, .slice A3 n.nums.length c3, .slice A4 n.ops.length c4, .slice A5 n.ents.length c5]] w fun e w' => ∃ A' c', e = .returned (.tuple #[.slice A' b.length c', .nilIface]) ∧ OwnK (Kd.int .u8) 5 w' w.heap.size w.heap.size A' b.length c' b ∧ Below w.heap.size w w' := by
  have h := enc_calls w n A3 c3 A4 c4 A5 c5 hn3 hc3 hn4 hc4 hn5 hc5 hk3 hk4 hk5 hI
  rw [(enc_ok hg hI).1, he] at h
  exact h
theorem enc_bad (w : World) (n : NT) (A3 : Option Addr) (c3 : Nat) (A4 : Option Addr) (c4 : Nat) (A5 : Option Addr) (c5 : Nat) (hn3 : (Kd.int .i64).C w A3 n.nums.length n.nums) (hc3 : n.nums.length ≤ c3) (hn4 : kOp.C w A4 n.ops.length n.ops) (hc4 : n.ops.length ≤ c4) (hn5 : kEntry.C w A5 n.ents.length n.ents) (hc5 : n.ents.length ≤ c5) (hk3 : n.nums.length ≤ 140737488355328) (hk4 : n.ops.length ≤ 140737488355328) (hk5 : n.ents.length ≤ 140737488355328) (hI : ∀ y ∈ listN n, I64 y) (hg : goodN n = false) : Calls Try.prog 12 #[.agg #[.int .i64 n.kind, .int .i64 n.fr, .int .i64 n.tw, .slice A3 n.nums.length c3, .slice A4 n.ops.length c4, .slice A5 n.ents.length c5]] w fun e w' => ∃ A' c', e = .returned (.tuple #[.slice A' 0 c', errT (some 2)]) ∧ Below w.heap.size w w' := by
  have h := enc_calls w n A3 c3 A4 c4 A5 c5 hn3 hc3 hn4 hc4 hn5 hc5 hk3 hk4 hk5 hI
  rw [(eb_no hg).1, (eb_no hg).2] at h
  refine h.mono ?_
  rintro e w' ⟨A', c', rfl, h1, h2⟩
  exact ⟨A', c', rfl, h2⟩
theorem dec_some (w : World) (A0 : Option Addr) (c0 : Nat) (b : List Int) (n : NT) (hC : (Kd.int .u8).C w A0 b.length b) (hc : b.length ≤ c0) (hb : Bytes b) (hl : b.length ≤ 1000000) (hD : decN b = (n, none)) : Calls Try.prog 19 #[.slice A0 b.length c0] w fun e w' => ∃ A3 c3 A4 c4 A5 c5, e = .returned (.tuple #[.agg #[.int .i64 n.kind, .int .i64 n.fr, .int .i64 n.tw, .slice A3 n.nums.length c3, .slice A4 n.ops.length c4, .slice A5 n.ents.length c5], .nilIface]) ∧ OwnK (Kd.int .i64) 3 w' w.heap.size w.heap.size A3 n.nums.length c3 n.nums ∧ OwnK kOp 73 w' w.heap.size w.heap.size A4 n.ops.length c4 n.ops ∧ OwnK kEntry 83 w' w.heap.size w.heap.size A5 n.ents.length c5 n.ents ∧ Below w.heap.size w w' := by
  have h := dec_calls w A0 c0 b hC hc hb hl
  rw [hD] at h
  exact h
theorem dec_none (w : World) (A0 : Option Addr) (c0 : Nat) (b : List Int) (z : Int) (hC : (Kd.int .u8).C w A0 b.length b) (hc : b.length ≤ c0) (hb : Bytes b) (hl : b.length ≤ 1000000) (hD : decN b = (NT.zero, some z)) : Calls Try.prog 19 #[.slice A0 b.length c0] w fun e w' => ∃ A3 c3 A4 c4 A5 c5, e = .returned (.tuple #[.agg #[.int .i64 0, .int .i64 0, .int .i64 0, .slice A3 0 c3, .slice A4 0 c4, .slice A5 0 c5], errT (some z)]) ∧ Below w.heap.size w w' := by
  have h := dec_calls w A0 c0 b hC hc hb hl
  rw [hD] at h
  refine h.mono ?_
  rintro e w' ⟨A3, c3, A4, c4, A5, c5, rfl, h1, h2, h3, h4⟩
  exact ⟨A3, c3, A4, c4, A5, c5, rfl, h4⟩
theorem same_self (w : World) (n : NT) (A3 : Option Addr) (c3 : Nat) (A4 : Option Addr) (c4 : Nat) (A5 : Option Addr) (c5 : Nat) (hn3 : (Kd.int .i64).C w A3 n.nums.length n.nums) (hc3 : n.nums.length ≤ c3) (hk3 : n.nums.length ≤ 140737488355328) (hn4 : kOp.C w A4 n.ops.length n.ops) (hc4 : n.ops.length ≤ c4) (hk4 : n.ops.length ≤ 140737488355328) (hn5 : kEntry.C w A5 n.ents.length n.ents) (hc5 : n.ents.length ≤ c5) (hk5 : n.ents.length ≤ 140737488355328) (A6 : Option Addr) (c6 : Nat) (A7 : Option Addr) (c7 : Nat) (A8 : Option Addr) (c8 : Nat) (hn6 : (Kd.int .i64).C w A6 n.nums.length n.nums) (hc6 : n.nums.length ≤ c6) (hk6 : n.nums.length ≤ 140737488355328) (hn7 : kOp.C w A7 n.ops.length n.ops) (hc7 : n.ops.length ≤ c7) (hk7 : n.ops.length ≤ 140737488355328) (hn8 : kEntry.C w A8 n.ents.length n.ents) (hc8 : n.ents.length ≤ c8) (hk8 : n.ents.length ≤ 140737488355328) : Calls Try.prog 22 #[.agg #[.int .i64 n.kind, .int .i64 n.fr, .int .i64 n.tw, .slice A3 n.nums.length c3, .slice A4 n.ops.length c4, .slice A5 n.ents.length c5], .agg #[.int .i64 n.kind, .int .i64 n.fr, .int .i64 n.tw, .slice A6 n.nums.length c6, .slice A7 n.ops.length c7, .slice A8 n.ents.length c8]] w fun e w' => e = .returned (.bool true) ∧ Below w.heap.size w w' := by
  refine (same_calls w n n A3 c3 A4 c4 A5 c5 hn3 hc3 hk3 hn4 hc4 hk4 hn5 hc5 hk5 A6 c6 A7 c7 A8 c8 hn6 hc6 hk6 hn7 hc7 hk7 hn8 hc8 hk8).mono ?_
  rintro e w' ⟨bb, rfl, hi, hb⟩
  exact ⟨by rw [hi.2 rfl], hb⟩
theorem rsame_self (w : World) (n : NT) (A3 : Option Addr) (c3 : Nat) (A4 : Option Addr) (c4 : Nat) (A5 : Option Addr) (c5 : Nat) (hn3 : (Kd.int .i64).C w A3 n.nums.length n.nums) (hc3 : n.nums.length ≤ c3) (hk3 : n.nums.length ≤ 140737488355328) (hn4 : kOp.C w A4 n.ops.length n.ops) (hc4 : n.ops.length ≤ c4) (hk4 : n.ops.length ≤ 140737488355328) (hn5 : kEntry.C w A5 n.ents.length n.ents) (hc5 : n.ents.length ≤ c5) (hk5 : n.ents.length ≤ 140737488355328) (A6 : Option Addr) (c6 : Nat) (A7 : Option Addr) (c7 : Nat) (A8 : Option Addr) (c8 : Nat) (hn6 : (Kd.int .i64).C w A6 n.nums.length n.nums) (hc6 : n.nums.length ≤ c6) (hk6 : n.nums.length ≤ 140737488355328) (hn7 : kOp.C w A7 n.ops.length n.ops) (hc7 : n.ops.length ≤ c7) (hk7 : n.ops.length ≤ 140737488355328) (hn8 : kEntry.C w A8 n.ents.length n.ents) (hc8 : n.ents.length ≤ c8) (hk8 : n.ents.length ≤ 140737488355328) : Calls Try.prog 17 #[.agg #[.int .i64 n.kind, .int .i64 n.fr, .int .i64 n.tw, .slice A3 n.nums.length c3, .slice A4 n.ops.length c4, .slice A5 n.ents.length c5], .agg #[.int .i64 n.kind, .int .i64 n.fr, .int .i64 n.tw, .slice A6 n.nums.length c6, .slice A7 n.ops.length c7, .slice A8 n.ents.length c8]] w fun e w' => e = .returned (.bool true) ∧ Below w.heap.size w w' := by
  refine (rsame_calls w n n A3 c3 A4 c4 A5 c5 hn3 hc3 hk3 hn4 hc4 hk4 hn5 hc5 hk5 A6 c6 A7 c7 A8 c8 hn6 hc6 hk6 hn7 hc7 hk7 hn8 hc8 hk8).mono ?_
  rintro e w' ⟨bb, rfl, hi, hb⟩
  exact ⟨by rw [hi.2 rfl], hb⟩
end Go.Proofs.Ytbbhdohjhipalaa.Ce
end
section
namespace Go.Proofs.Ytbbhdohjhipalaa.Ce
open Go.RowKit Go.Proofs.YtbbhdohjhipalaaW.PrintWords Go.Proofs.YtbbhdohjhipalaaW.PrintLast Go.Proofs.YtbbhdohjhipalaaW.PrintMore
open Go.Proofs.Ytbbhdohjhipalaa.Flow
set_option linter.unusedVariables false
set_option linter.unusedSimpArgs false
def encPlace (x : (Int × Int)) : List Value := [.int .i64 x.1, .int .i64 x.2]
theorem encPlace_len (x : (Int × Int)) : (encPlace x).length = 2 := rfl
theorem encPlace_one (x : (Int × Int)) (u : Value) (hu : u ∈ encPlace x) : u.oneCell' = true := by
  simp only [encPlace, List.mem_cons, List.not_mem_nil, or_false] at hu
  rcases hu with rfl | rfl <;> rfl
abbrev kPlace : Kd (Int × Int) := flat 2 encPlace encPlace_len encPlace_one
def spreadL (l : List (Int × Int)) : List Int := (l.map (fun p => [p.1, p.2])).flatten
theorem spread_len : ∀ l : List (Int × Int), (spreadL l).length = 2 * l.length
  | [] => rfl
  | p :: l => by
    have := spread_len l
    unfold spreadL at *
    simp only [List.map_cons, List.flatten_cons, List.length_append, List.length_cons, List.length_nil, this]
    omega
theorem spread_snoc (l : List (Int × Int)) (j : Nat) (h : j < l.length) : spreadL (l.take (j + 1)) = spreadL (l.take j) ++ [(l.getD j (0, 0)).1, (l.getD j (0, 0)).2] := by
  unfold spreadL
  rw [List.take_succ_eq_append_getElem h, List.map_append, List.flatten_append, List.getD_eq_getElem?_getD, List.getElem?_eq_getElem h]
  simp
def placesN (l : List Int) : Nat → List (Int × Int)
  | 0 => []
  | j + 1 => placesN l j ++ [(l.getD (2 * j) 0, l.getD (2 * j + 1) 0)]
theorem places_len (l : List Int) : ∀ j, (placesN l j).length = j
  | 0 => rfl
  | j + 1 => by rw [placesN, List.length_append, places_len l j]; rfl
set_option maxHeartbeats 4000000 in
theorem spread_calls (w : World) (A1 : Option Addr) (c1 : Nat) (l : List (Int × Int)) (hl : kPlace.C w A1 l.length l) (hc : l.length ≤ c1) (hln : l.length ≤ 100000) :
  Calls Try.prog 23 #[.slice A1 l.length c1] w fun e w' => ∃ A' c', e = .returned (.slice A' (spreadL l).length c') ∧ OwnK (Kd.int .i64) 3 w' w.heap.size w.heap.size A' (spreadL l).length c' (spreadL l) ∧ Below w.heap.size w w' := by
 refine calls_flow Try.func23 rfl 21 rfl (Nat.le_of_ble_eq_true rfl) [(0, .slice A1 l.length c1)] ?_ ?_
 ·
  intro t v h; exact args_look rfl t v h
 refine w_seq ?_
 refine w_region ?_
 refine rv (.slice none 0 0) ?_
 refine rw_end ?_
 refine w_seq ?_
 refine w_region ?_
 refine rv (.slice none 0 0) ?_
 refine rw_end ?_
 refine w_seq ?_
 refine w_seq ?_
 refine w_region ?_
 refine rv (.slice A1 l.length c1) ?_
 refine rz (.int .i64 ((l.length : Nat) : Int)) (by simp [go_sem, sEv, sLook, nbeq, i64_w, -List.getD_eq_getElem?_getD]) ?_
 refine rv (.int .i64 0) ?_
 refine rw_end ?_
 refine w_block ?_
 refine w_loop (fun m_ G W_ => ∃ (j : Nat) (A3_ : Option Addr) (c3_ : Nat), j + m_ = l.length ∧ Below w.heap.size w W_ ∧ OwnK (Kd.int .i64) 3 W_ w.heap.size w.heap.size A3_ (spreadL (l.take j)).length c3_ (spreadL (l.take j)) ∧ G = [(3, .slice A3_ ((spreadL (l.take j)).length) c3_), (6, .slice A1 l.length c1), (7, .int .i64 ((l.length : Nat) : Int)), (8, .int .i64 ((j : Nat) : Int))]) l.length [(3, .slice none ((spreadL (l.take 0)).length) 0), (6, .slice A1 l.length c1), (7, .int .i64 ((l.length : Nat) : Int)), (8, .int .i64 0)] ⟨0, none, 0, by omega, (Below.refl _ _), (OwnK.nil _ _ _ _ _), rfl⟩ ⟨rfl, rfl, rfl, rfl, trivial⟩ ?_
 rintro m_ G w_L1 ⟨j, A3_, c3_, hp2, hB_L1, hO3_, rfl⟩
 have hs_w_L1 := hB_L1.size
 refine w_seq ?_
 refine w_region ?_
 refine rz (.bool (decide (((j : Nat) : Int) < ((l.length : Nat) : Int)))) (by simp [go_sem, sEv, sLook, nbeq, i64_w, -List.getD_eq_getElem?_getD]) ?_
 refine rw_end ?_
 refine w_seq ?_
 refine w_cond rfl rfl (fun cJ => ?_) (fun cJ => ?_)
 ·
  have l3 : (((j : Nat) : Int) < ((l.length : Nat) : Int)) := of_decide_eq_true cJ
  refine w_skip ?_
  refine w_seq ?_
  refine w_block ?_
  refine w_seq ?_
  refine w_region ?_
  obtain ⟨ad4, hA5, hc6⟩ := flat_at (Kd.C_below hl hB_L1) (0, 0) j (by first | omega | decide)
  subst hA5
  have he7 : w_L1.cell? (ad4.add (j * 2)) = some (.int .i64 ((l.getD j (0, 0)).1)) := cell_0 (hc6 0 _ rfl)
  have he8 : w_L1.cell? ⟨(ad4.add (j * 2)).block, (ad4.add (j * 2)).off + 1, none⟩ = some (.int .i64 ((l.getD j (0, 0)).2)) := cell_j (hc6 1 _ rfl)
  refine rz (.pointer (some (ad4.add (j * 2)))) (run_as (run_at_k (P := Try.prog) (e := 55) (sz := 2) (by kernel_rfl) (by kernel_rfl) j (by first | omega | decide) _)) ?_
  refine rz (.agg #[.int .i64 ((l.getD j (0, 0)).1), .int .i64 ((l.getD j (0, 0)).2)]) (by have e0_ := cellOn he7 (Below.refl _ _); have e1_ := cellOn he8 (Below.refl _ _); simp [go_sem, sEv, sLook, nbeq, i64_w, -List.getD_eq_getElem?_getD, e0_, e1_, Try.underlying55]) ?_
  refine rw_new (cs := #[.int .i64 0, .int .i64 0]) (t := 55) (fun g => .pointer (some ⟨g, 0, none⟩)) rfl rfl rfl rfl (by kernel_rfl) ?_
  intro g9 w10 hg14 hz13 hb11 hk12
  have hs_w10 := hb11.size
  have hb18 := hk12
  refine rw_store (g := g9) (i := 0) (l := [.int .i64 ((l.getD j (0, 0)).1), .int .i64 ((l.getD j (0, 0)).2)]) (cs' := #[.int .i64 ((l.getD j (0, 0)).1), .int .i64 ((l.getD j (0, 0)).2)]) rfl rfl rfl hb18 rfl (by have e0_ := hb18.cellv (i := 0) (v := (.int .i64 0 : Value)) rfl; have f0_ := hb18.frozen 0; have e1_ := hb18.cellv (i := 1) (v := (.int .i64 0 : Value)) rfl; have f1_ := hb18.frozen 1; simp [go_sem, sEv, sLook, nbeq, i64_w, -List.getD_eq_getElem?_getD, putCells, e0_, f0_, e1_, f1_, Try.underlying55]) ?_
  intro w15 hk16 hk17
  have hs_w15 := hk16.size
  refine rw_end ?_
  refine w_weaken (G' := [(3, .slice A3_ ((spreadL (l.take j)).length) c3_), (5, .pointer (some ⟨g9, 0, none⟩)), (6, .slice (some ad4) l.length c1), (7, .int .i64 ((l.length : Nat) : Int)), (8, .int .i64 ((j : Nat) : Int))]) ⟨rfl, rfl, rfl, rfl, rfl, trivial⟩ ?_
  refine w_region ?_
  refine rv (.slice A3_ ((spreadL (l.take j)).length) c3_) ?_
  refine rz (.pointer (some ⟨g9, 0, none⟩)) (by simp [go_sem, sEv, sLook, nbeq, i64_w, -List.getD_eq_getElem?_getD, Try.underlying55]) ?_
  refine rz (.int .i64 ((l.getD j (0, 0)).1)) (by have eb_ := hk17; have e0_ := eb_.cellv (i := 0) (v := (.int .i64 ((l.getD j (0, 0)).1) : Value)) rfl; simp [go_sem, sEv, sLook, nbeq, i64_w, -List.getD_eq_getElem?_getD, e0_]) ?_
  refine rz (.pointer (some ⟨g9, 1, none⟩)) (by simp [go_sem, sEv, sLook, nbeq, i64_w, -List.getD_eq_getElem?_getD, Try.underlying55]) ?_
  refine rz (.int .i64 ((l.getD j (0, 0)).2)) (by have eb_ := hk17; have e0_ := eb_.cellv (i := 1) (v := (.int .i64 ((l.getD j (0, 0)).2) : Value)) rfl; simp [go_sem, sEv, sLook, nbeq, i64_w, -List.getD_eq_getElem?_getD, e0_]) ?_
  refine rw_new (cs := #[.int .i64 ((l.getD j (0, 0)).1), .int .i64 ((l.getD j (0, 0)).2)]) (t := 3) (fun g => .slice (some ⟨g, 0, none⟩) 2 2) rfl rfl rfl rfl (by kernel_rfl) ?_
  intro g19 w20 hg24 hz23 hb21 hk22
  have hs_w20 := hb21.size
  have hk22r : OwnK (Kd.int .i64) 3 w20 w.heap.size g19 (some ⟨g19, 0, none⟩) 2 2 ([(l.getD j (0, 0)).1, (l.getD j (0, 0)).2] : List Int) := scal_own w.heap.size hk22 (by omega) rfl rfl (by simp)
  have oA31 : OwnK (Kd.int .i64) 3 w20 w.heap.size w.heap.size A3_ ((spreadL (l.take j)).length) c3_ (spreadL (l.take j)) := (OwnK.on (d := (Kd.int .i64)) (own_keep (d := (Kd.int .i64)) (OwnK.on (d := (Kd.int .i64)) hO3_ hb11) hk12 (by decide) hk16) hb21)
  refine rw_append_kd (d := (Kd.int .i64)) w.heap.size rfl rfl rfl (.tmp 12) (.tmp 17) rfl rfl 22 3 (.int .i64 0) 8 rfl (by kernel_rfl) (by kernel_rfl) rfl (show 0 < 1 by decide) (by decide) (fun _ _ h => h) (b := w.heap.size) rfl rfl (by omega) oA31 (OwnK.Cn (d := (Kd.int .i64)) hk22r) (chain (hk16.below (by omega) (chain hB_L1 hb11)) hb21) (by omega) (by have q_ := spread_len (l.take j); rw [List.length_take] at q_; first | omega | (simp only [List.length_append, List.length_cons, List.length_nil]; omega)) ?_
  intro A25 c26 w27 hO28 hB29 hG30
  have hs_w27 := hB29.size
  have hgs_w27 := hG30.size
  have hk33 := OwnK.blk_grown (hk17.on hb21) oA31 (.inr (by decide)) hG30
  refine rv (.slice A25 (((spreadL (l.take j)) ++ ([(l.getD j (0, 0)).1, (l.getD j (0, 0)).2] : List Int)).length) c26) ?_
  refine rw_end ?_
  refine w_weaken (G' := [(3, .slice A25 (((spreadL (l.take j)) ++ ([(l.getD j (0, 0)).1, (l.getD j (0, 0)).2] : List Int)).length) c26), (6, .slice (some ad4) l.length c1), (7, .int .i64 ((l.length : Nat) : Int)), (8, .int .i64 ((j : Nat) : Int))]) ⟨rfl, rfl, rfl, rfl, trivial⟩ ?_
  refine w_blk ?_
  refine w_region ?_
  refine rz (.int .i64 ((j + 1 : Nat) : Int)) (by simp [go_sem, sEv, sLook, nbeq, i64_w, -List.getD_eq_getElem?_getD]; exact wrap_id (by omega) (by omega)) ?_
  refine rv (.int .i64 ((j + 1 : Nat) : Int)) ?_
  refine rw_end ?_
  have e34 : ((spreadL (l.take j)) ++ ([(l.getD j (0, 0)).1, (l.getD j (0, 0)).2] : List Int)) = (spreadL (l.take (j + 1))) := by (rw [spread_snoc l j (by omega)])
  have hO35 : OwnK (Kd.int .i64) 3 w27 w.heap.size w.heap.size A25 (spreadL (l.take (j + 1))).length c26 (spreadL (l.take (j + 1))) := by rw [← e34]; exact OwnK.full hO28
  have en36 : ((spreadL (l.take j)) ++ ([(l.getD j (0, 0)).1, (l.getD j (0, 0)).2] : List Int)).length = (spreadL (l.take (j + 1))).length := by rw [← e34] <;> exact OwnK.len (d := (Kd.int .i64)) hO28
  exact w_back (m_ - 1) [(3, .slice A25 ((spreadL (l.take (j + 1))).length) c26), (6, .slice (some ad4) l.length c1), (7, .int .i64 ((l.length : Nat) : Int)), (8, .int .i64 ((j + 1 : Nat) : Int))] (by omega) ⟨(by first | rfl | (rw [← en36]; rfl)), rfl, rfl, rfl, trivial⟩ ⟨(j + 1), A25, c26, by omega, hB29, (OwnK.mono (d := (Kd.int .i64)) hO35 (by omega)), rfl⟩
 ·
  have l37 : ¬ (((j : Nat) : Int) < ((l.length : Nat) : Int)) := of_decide_eq_false cJ
  refine w_exit rfl ?_
  refine w_seq ?_
  refine w_region ?_
  refine rv (.slice A3_ ((spreadL (l.take j)).length) c3_) ?_
  refine rv (.slice A3_ ((spreadL (l.take j)).length) c3_) ?_
  refine rw_end ?_
  refine w_ret (post_ret1 rfl rfl ?_)
  have eX_ : (spreadL (l.take j)) = spreadL l := by rw [List.take_of_length_le (by omega)]
  have hf_ := hO3_
  rw [eX_] at hf_
  rw [eX_]
  exact ⟨_, _, rfl, OwnK.mono (d := (Kd.int .i64)) hf_ (by omega), hB_L1⟩
set_option maxHeartbeats 4000000 in
theorem places_calls (w : World) (A1 : Option Addr) (c1 : Nat) (l : List Int) (hl : (Kd.int .i64).C w A1 l.length l) (hc : l.length ≤ c1) (hln : l.length ≤ 100000) :
  Calls Try.prog 24 #[.slice A1 l.length c1] w fun e w' => ∃ A' c', e = .returned (.slice A' (placesN l (l.length / 2)).length c') ∧ OwnK kPlace 55 w' w.heap.size w.heap.size A' (placesN l (l.length / 2)).length c' (placesN l (l.length / 2)) ∧ Below w.heap.size w w' := by
 refine calls_flow Try.func24 rfl 25 rfl (Nat.le_of_ble_eq_true rfl) [(0, .slice A1 l.length c1)] ?_ ?_
 ·
  intro t v h; exact args_look rfl t v h
 refine w_seq ?_
 refine w_region ?_
 refine rv (.slice none 0 0) ?_
 refine rw_end ?_
 refine w_seq ?_
 refine w_region ?_
 refine rv (.slice none 0 0) ?_
 refine rw_end ?_
 refine w_seq ?_
 refine w_seq ?_
 refine w_region ?_
 refine rv (.int .i64 1) ?_
 refine rw_end ?_
 refine w_block ?_
 refine w_loop (fun m_ G W_ => ∃ (j : Nat) (A3_ : Option Addr) (c3_ : Nat), j + m_ = l.length / 2 ∧ Below w.heap.size w W_ ∧ OwnK kPlace 55 W_ w.heap.size w.heap.size A3_ (placesN l j).length c3_ (placesN l j) ∧ G = [(0, .slice A1 l.length c1), (3, .slice A3_ ((placesN l j).length) c3_), (4, .int .i64 ((2 * j + 1 : Nat) : Int))]) (l.length / 2) [(0, .slice A1 l.length c1), (3, .slice none ((placesN l 0).length) 0), (4, .int .i64 1)] ⟨0, none, 0, by omega, (Below.refl _ _), (OwnK.nil _ _ _ _ _), rfl⟩ ⟨rfl, rfl, rfl, trivial⟩ ?_
 rintro m_ G w_L1 ⟨j, A3_, c3_, hp2, hB_L1, hO3_, rfl⟩
 have hs_w_L1 := hB_L1.size
 refine w_seq ?_
 refine w_seq ?_
 refine w_region ?_
 refine rv (.int .i64 ((2 * j + 1 : Nat) : Int)) ?_
 refine rv (.slice A1 l.length c1) ?_
 refine rz (.int .i64 ((l.length : Nat) : Int)) (by simp [go_sem, sEv, sLook, nbeq, i64_w, -List.getD_eq_getElem?_getD]) ?_
 refine rz (.bool (decide (((2 * j + 1 : Nat) : Int) < ((l.length : Nat) : Int)))) (by simp [go_sem, sEv, sLook, nbeq, i64_w, -List.getD_eq_getElem?_getD]) ?_
 refine rw_end ?_
 refine w_weaken (G' := [(0, .slice A1 l.length c1), (3, .slice A3_ ((placesN l j).length) c3_), (4, .int .i64 ((2 * j + 1 : Nat) : Int)), (8, .bool (decide (((2 * j + 1 : Nat) : Int) < ((l.length : Nat) : Int))))]) ⟨rfl, rfl, rfl, rfl, trivial⟩ ?_
 refine w_cond rfl rfl (fun cJ => ?_) (fun cJ => ?_)
 ·
  have l3 : (((2 * j + 1 : Nat) : Int) < ((l.length : Nat) : Int)) := of_decide_eq_true cJ
  refine w_skip ?_
  refine w_seq ?_
  refine w_block ?_
  obtain ⟨ad4, hA5, hc6⟩ := int_at (Kd.C_below hl hB_L1) 0 (2 * j) (by first | omega | decide)
  subst hA5
  have he7 : w_L1.cell? (ad4.add (2 * j)) = some (.int .i64 (l.getD (2 * j) 0)) := cell_0 (hc6 0 _ rfl)
  obtain ⟨ad8, hA9, hc10⟩ := int_at (Kd.C_below hl hB_L1) 0 (2 * j + 1) (by first | omega | decide)
  obtain rfl := Option.some.inj hA9
  have he11 : w_L1.cell? ⟨ad4.block, ad4.off + (2 * j + 1), none⟩ = some (.int .i64 (l.getD (2 * j + 1) 0)) := cell_lit (cell_0 (hc10 0 _ rfl)) (by omega)
  refine w_drawk (M := [0, 0, 0, 4, 14, 30, 0, 0, 192, 448, 1022, 2046, 4095, 8191]) (ss := [Is (.slice A3_ ((placesN l j).length) c3_), Is (.slice (some ad4) l.length c1), Is (.int .i64 ((2 * j + 1 : Nat) : Int)), Is (.int .i64 ((2 * j : Nat) : Int)), Is (.pointer (some (ad4.add (2 * j)))), Is (.int .i64 (l.getD (2 * j) 0)), Is (.slice (some ad4) l.length c1), Is (.int .i64 ((2 * j + 1 : Nat) : Int)), Is (.pointer (some (ad4.add (2 * j + 1)))), Is (.int .i64 (l.getD (2 * j + 1) 0)), Is (.agg #[.int .i64 (l.getD (2 * j) 0), .int .i64 (l.getD (2 * j + 1) 0)]), SlcSpec w_L1.heap.size 55 #[.int .i64 (l.getD (2 * j) 0), .int .i64 (l.getD (2 * j + 1) 0)] 1]) 12 rfl (by decide +kernel) ?_
  refine t_is (.slice A3_ ((placesN l j).length) c3_) rfl rfl rfl rfl (fun W_ hW_ F_ => rfl) ?_
  refine t_is (.slice (some ad4) l.length c1) rfl rfl rfl rfl (fun W_ hW_ F_ => rfl) ?_
  refine t_is (.int .i64 ((2 * j + 1 : Nat) : Int)) rfl rfl rfl rfl (fun W_ hW_ F_ => rfl) ?_
  refine t_is (.int .i64 ((2 * j : Nat) : Int)) rfl rfl rfl rfl (fun W_ hW_ F_ => by simp [go_sem, sEv, sLook, nbeq, i64_w, -List.getD_eq_getElem?_getD]; first | done | exact wrap_id (by omega) (by omega) | (unfold wrap64; omega)) ?_
  refine t_is (.pointer (some (ad4.add (2 * j)))) rfl rfl rfl rfl (fun W_ hW_ F_ => (run_as (run_at_1 (P := Try.prog) (e := 3) (by kernel_rfl) (by kernel_rfl) (2 * j) (by first | omega | decide) _))) ?_
  refine t_is (.int .i64 (l.getD (2 * j) 0)) rfl rfl rfl rfl (fun W_ hW_ F_ => by have e0_ := cellOn he7 (below_of_drew hW_); simp [go_sem, sEv, sLook, nbeq, i64_w, -List.getD_eq_getElem?_getD, e0_]) ?_
  refine t_is (.slice (some ad4) l.length c1) rfl rfl rfl rfl (fun W_ hW_ F_ => rfl) ?_
  refine t_is (.int .i64 ((2 * j + 1 : Nat) : Int)) rfl rfl rfl rfl (fun W_ hW_ F_ => rfl) ?_
  refine t_is (.pointer (some (ad4.add (2 * j + 1)))) rfl rfl rfl rfl (fun W_ hW_ F_ => (run_as (run_at_1 (P := Try.prog) (e := 3) (by kernel_rfl) (by kernel_rfl) (2 * j + 1) (by first | omega | decide) _))) ?_
  refine t_is (.int .i64 (l.getD (2 * j + 1) 0)) rfl rfl rfl rfl (fun W_ hW_ F_ => by have e0_ := cellOn he11 (below_of_drew hW_); simp [go_sem, sEv, sLook, nbeq, i64_w, -List.getD_eq_getElem?_getD, e0_]) ?_
  refine t_is (.agg #[.int .i64 (l.getD (2 * j) 0), .int .i64 (l.getD (2 * j + 1) 0)]) rfl rfl rfl rfl (fun W_ hW_ F_ => by kernel_rfl) ?_
  refine t_val (SlcSpec w_L1.heap.size 55 #[.int .i64 (l.getD (2 * j) 0), .int .i64 (l.getD (2 * j + 1) 0)] 1) rfl rfl rfl rfl (fun W_ hW_ F_ => slc_gives _ _ _ _ (below_of_drew hW_).size (by kernel_rfl)) ?_
  rintro _ ⟨g12, rfl⟩
  refine t_tail ?_
  intro w15 hb16_ F17
  have hb16 := below_of_drew hb16_
  have hs_w15 := hb16.size
  obtain ⟨hge14, hk13⟩ := slc_fact (F17 11 _ _ rfl)
  have hlt_g12 := hk13.lt
  clear F17
  have hk13r : OwnK kPlace 55 w15 w.heap.size g12 (some ⟨g12, 0, none⟩) 1 1 ([((l.getD (2 * j) 0), (l.getD (2 * j + 1) 0))] : List (Int × Int)) := flat_own w.heap.size hk13 (by omega) rfl rfl (by simp) (by simp)
  have oA24 : OwnK kPlace 55 w15 w.heap.size w.heap.size A3_ ((placesN l j).length) c3_ (placesN l j) := (OwnK.on (d := kPlace) hO3_ hb16)
  refine rw_append_kd (d := kPlace) w.heap.size rfl rfl rfl (.tmp 11) (.tmp 22) rfl rfl 51 55 (.agg #[.int .i64 0, .int .i64 0]) 16 rfl (by kernel_rfl) (by kernel_rfl) rfl (show 0 < 2 by decide) (by decide) (fun _ _ h => h) (b := w.heap.size) rfl rfl (by omega) oA24 (OwnK.Cn (d := kPlace) hk13r) (chain hB_L1 hb16) (by omega) (by have q_ := places_len l j; first | omega | (simp only [List.length_append, List.length_cons, List.length_nil]; omega)) ?_
  intro A18 c19 w20 hO21 hB22 hG23
  have hs_w20 := hB22.size
  have hgs_w20 := hG23.size
  refine rv (.slice A18 (((placesN l j) ++ ([((l.getD (2 * j) 0), (l.getD (2 * j + 1) 0))] : List (Int × Int))).length) c19) ?_
  refine rw_end ?_
  refine w_weaken (G' := [(0, .slice (some ad4) l.length c1), (3, .slice A18 (((placesN l j) ++ ([((l.getD (2 * j) 0), (l.getD (2 * j + 1) 0))] : List (Int × Int))).length) c19), (4, .int .i64 ((2 * j + 1 : Nat) : Int))]) ⟨rfl, rfl, rfl, trivial⟩ ?_
  refine w_blk ?_
  refine w_region ?_
  refine rv (.int .i64 ((2 * j + 1 : Nat) : Int)) ?_
  refine rz (.int .i64 ((2 * j + 1 + 2 : Nat) : Int)) (by simp [go_sem, sEv, sLook, nbeq, i64_w, -List.getD_eq_getElem?_getD]; exact wrap_id (by omega) (by omega)) ?_
  refine rv (.int .i64 ((2 * j + 1 + 2 : Nat) : Int)) ?_
  refine rw_end ?_
  have e26 : ((placesN l j) ++ ([((l.getD (2 * j) 0), (l.getD (2 * j + 1) 0))] : List (Int × Int))) = (placesN l (j + 1)) := by rfl
  have hO27 : OwnK kPlace 55 w20 w.heap.size w.heap.size A18 (placesN l (j + 1)).length c19 (placesN l (j + 1)) := by rw [← e26]; exact OwnK.full hO21
  have en28 : ((placesN l j) ++ ([((l.getD (2 * j) 0), (l.getD (2 * j + 1) 0))] : List (Int × Int))).length = (placesN l (j + 1)).length := by rw [← e26] <;> exact OwnK.len (d := kPlace) hO21
  exact w_back (m_ - 1) [(0, .slice (some ad4) l.length c1), (3, .slice A18 ((placesN l (j + 1)).length) c19), (4, .int .i64 ((2 * (j + 1) + 1 : Nat) : Int))] (by omega) ⟨rfl, (by first | rfl | (rw [← en28]; rfl)), rfl, trivial⟩ ⟨(j + 1), A18, c19, by omega, hB22, (OwnK.mono (d := kPlace) hO27 (by omega)), rfl⟩
 ·
  have l29 : ¬ (((2 * j + 1 : Nat) : Int) < ((l.length : Nat) : Int)) := of_decide_eq_false cJ
  refine w_exit rfl ?_
  refine w_seq ?_
  refine w_region ?_
  refine rv (.slice A3_ ((placesN l j).length) c3_) ?_
  refine rv (.slice A3_ ((placesN l j).length) c3_) ?_
  refine rw_end ?_
  refine w_ret (post_ret1 rfl rfl ?_)
  have eX_ : (placesN l j) = placesN l (l.length / 2) := by rw [show j = l.length / 2 by omega]
  have hf_ := hO3_
  rw [eX_] at hf_
  rw [eX_]
  exact ⟨_, _, rfl, OwnK.mono (d := kPlace) hf_ (by omega), hB_L1⟩
end Go.Proofs.Ytbbhdohjhipalaa.Ce
end
