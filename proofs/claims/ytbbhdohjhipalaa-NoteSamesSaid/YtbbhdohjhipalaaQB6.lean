/- Parts of the proofs of noteForms_holds, noteSames_holds: NtSame, NtRSame, NtBack2, NtArg, NtBackL, NtCopied, NtCopW, NtWide. -/
import Derived.Deep.Upon
import Derived.Laws.CopyRow
import Derived.Test.YtbbhdohjhipalaaQB5
section
namespace Go.Proofs.Ytbbhdohjhipalaa.Ce
open Go.RowKit Go.Proofs.YtbbhdohjhipalaaW.PrintWords Go.Proofs.YtbbhdohjhipalaaW.PrintLast Go.Proofs.YtbbhdohjhipalaaW.PrintMore
open Go.Proofs.Ytbbhdohjhipalaa.Flow
set_option linter.unusedVariables false
set_option linter.unusedSimpArgs false
theorem eqA55 (d : Nat) (w : World) (x0 y0 : Int) (x1 y1 : Int) :
    (Op.equalIn (d + 2) 55 (.agg #[.int .i64 x0, .int .i64 x1]) (.agg #[.int .i64 y0, .int .i64 y1])).run Try.prog w = .ok (x0 == y0 && (x1 == y1)) w := by
  refine eqA_of Try.underlying55 (by kernel_rfl) ?_
  refine eqf_cons (by rfl) (by go_simp; rfl) (by go_simp; rfl) (by go_simp) ?_
  exact eqf_last (by rfl) (by go_simp; rfl) (by go_simp; rfl) (by go_simp)
theorem eqA73 (d : Nat) (w : World) (x0 y0 : Int) (x1 y1 : Int) (x2 y2 : Int) (x3 y3 : Int) (x4 y4 : Int) :
    (Op.equalIn (d + 2) 73 (.agg #[.int .i64 x0, .int .i64 x1, .int .i64 x2, .int .i64 x3, .int .i64 x4]) (.agg #[.int .i64 y0, .int .i64 y1, .int .i64 y2, .int .i64 y3, .int .i64 y4])).run Try.prog w = .ok (x0 == y0 && (x1 == y1 && (x2 == y2 && (x3 == y3 && (x4 == y4))))) w := by
  refine eqA_of Try.underlying73 (by kernel_rfl) ?_
  refine eqf_cons (by rfl) (by go_simp; rfl) (by go_simp; rfl) (by go_simp) ?_
  refine eqf_cons (by rfl) (by go_simp; rfl) (by go_simp; rfl) (by go_simp) ?_
  refine eqf_cons (by rfl) (by go_simp; rfl) (by go_simp; rfl) (by go_simp) ?_
  refine eqf_cons (by rfl) (by go_simp; rfl) (by go_simp; rfl) (by go_simp) ?_
  exact eqf_last (by rfl) (by go_simp; rfl) (by go_simp; rfl) (by go_simp)
def eqE (a b : EL) : Bool := (a.win == b.win && a.key == b.key) && eqC a.c b.c
theorem eqE_iff (a b : EL) : eqE a b = true ↔ a = b := by
  unfold eqE
  rw [Bool.and_eq_true, Bool.and_eq_true, beq_iff_eq, beq_iff_eq, eqC_iff]
  constructor
  · rintro ⟨⟨h1, h2⟩, h3⟩
    cases a
    cases b
    simp_all
  · rintro rfl
    exact ⟨⟨rfl, rfl⟩, rfl⟩
theorem eqE_self (a : EL) : eqE a a = true := (eqE_iff a a).2 rfl
theorem ext_place (x : EL) : (earr x).extract 0 (0 + 2) = #[.int .i64 x.win, .int .i64 x.key] := by
  have h : (earr x).extract 0 (0 + 2) = ((encE x).extract 0 (0 + 2)).toArray := by simp [earr]
  rw [h]
  rfl
theorem ext_ecell (x : EL) : (earr x).extract 2 (2 + 74) = carr x.c := by
  have h : (earr x).extract 2 (2 + 74) = ((encE x).extract 2 (2 + 74)).toArray := by simp [earr]
  have h2 : (encE x).extract 2 (2 + 74) = encC x.c := by
    show ((encC x.c).take 74) = encC x.c
    exact List.take_of_length_le (by rw [encC_len]; omega)
  rw [h, h2]
  rfl
set_option maxRecDepth 100000 in
theorem eqE_run (d : Nat) (w : World) (a b : EL) : (Op.equalIn (d + 5) 83 (.agg (earr a)) (.agg (earr b))).run Try.prog w = .ok (eqE a b) w := by
  have iP : (isAgg 55).run Try.prog w = .ok true w := by kernel_rfl
  have sP : (sizeOf 55).run Try.prog w = .ok 2 w := by kernel_rfl
  have iC : (isAgg 81).run Try.prog w = .ok true w := by kernel_rfl
  have sC : (sizeOf 81).run Try.prog w = .ok 74 w := by kernel_rfl
  refine eqA_of Try.underlying83 (by kernel_rfl) ?_
  refine eqf_cons (by rfl) (part_agg iP sP (ext_place a)) (part_agg iP sP (ext_place b)) (eqA55 (d + 2) w _ _ _ _) ?_
  exact eqf_last (by rfl) (part_agg iC sC (ext_ecell a)) (part_agg iC sC (ext_ecell b)) (eqC_run d w a.c b.c)
set_option maxRecDepth 100000 in
theorem run_ne_entry (a b : EL) (w : World) : (binOp .neq 83 (.agg (earr a)) (.agg (earr b))).run Try.prog w = .ok (.bool (!eqE a b)) w := by
  have h : (Op.equalIn Op.maxDepth 83 (.agg (earr a)) (.agg (earr b))).run Try.prog w = .ok (eqE a b) w := eqE_run 9995 w a b
  simp [binOp, Op.equal, h]
theorem guard_ne_entry (x y : Operand) (a b : EL) (w : World) : (do eqGuard .neq 83 x y (.agg (earr a)) (.agg (earr b)); binOp .neq 83 (.agg (earr a)) (.agg (earr b)) : Sem Value).run Try.prog w = .ok (.bool (!eqE a b)) w := by
  have h : Try.prog.eqGuardType Try.prog.depth 83 = false := by kernel_rfl
  have h2 := run_ne_entry a b w
  simp [eqGuard, h, h2]
theorem take_eq_step {α : Type} {xs ys : List α} {z : α} {j : Nat} (h1 : j < xs.length) (h2 : j < ys.length) (h : xs.take j = ys.take j) (e : xs.getD j z = ys.getD j z) : xs.take (j + 1) = ys.take (j + 1) := by
  rw [List.take_succ_eq_append_getElem h1, List.take_succ_eq_append_getElem h2, h]
  rw [List.getD_eq_getElem?_getD, List.getD_eq_getElem?_getD, List.getElem?_eq_getElem h1, List.getElem?_eq_getElem h2] at e
  simp only [Option.getD_some] at e
  rw [e]
theorem take_eq_all {α : Type} {xs ys : List α} {j : Nat} (h1 : xs.length ≤ j) (h2 : ys.length ≤ j) (h : xs.take j = ys.take j) : xs = ys := by
  rwa [List.take_of_length_le h1, List.take_of_length_le h2] at h
theorem getD_ne {α : Type} {xs ys : List α} {z : α} {j : Nat} (h : xs.getD j z ≠ ys.getD j z) : ¬ xs = ys := fun e => h (by rw [e])
theorem len_ne {α : Type} {xs ys : List α} (h : ¬ xs.length = ys.length) : ¬ xs = ys := fun e => h (by rw [e])
theorem no_iff {P : Prop} (h : ¬ P) : (false = true ↔ P) := ⟨fun e => absurd e (by decide), fun e => absurd e h⟩
theorem yes_iff {P : Prop} (h : P) : (true = true ↔ P) := ⟨fun _ => h, fun _ => rfl⟩
set_option maxHeartbeats 4000000 in
theorem equal_int (w : World) (A1 : Option Addr) (c1 : Nat) (A2 : Option Addr) (c2 : Nat) (xs ys : List Int) (h1 : (Kd.int .i64).C w A1 xs.length xs) (hc1 : xs.length ≤ c1) (h2 : (Kd.int .i64).C w A2 ys.length ys) (hc2 : ys.length ≤ c2) (hl1 : xs.length ≤ 140737488355328) (hl2 : ys.length ≤ 140737488355328) :
    Calls Try.prog 43 #[.slice A1 xs.length c1, .slice A2 ys.length c2] w fun e w' => ∃ bb, e = .returned (.bool bb) ∧ (bb = true ↔ xs = ys) ∧ Below w.heap.size w w' := by
  refine calls_flow Try.func43 rfl 26 rfl (Nat.le_of_ble_eq_true rfl) [(0, .slice A1 xs.length c1), (1, .slice A2 ys.length c2)] ?_ ?_
  · intro t v h; exact args_look rfl t v h
  refine w_seq ?_
  refine w_region ?_
  refine rw_val (v := .bool false) (w' := w) rfl rfl rfl rfl rfl ?_
  refine rw_end ?_
  refine w_seq ?_
  refine w_seq ?_
  refine w_region ?_
  refine rw_val (v := .slice A1 xs.length c1) (w' := w) rfl rfl rfl rfl rfl ?_
  refine rw_val (v := .int .i64 ((xs.length : Nat) : Int)) (w' := w) rfl rfl rfl rfl (by simp [go_sem, sEv, sLook, nbeq, i64_w, -List.getD_eq_getElem?_getD]) ?_
  refine rw_val (v := .slice A2 ys.length c2) (w' := w) rfl rfl rfl rfl rfl ?_
  refine rw_val (v := .int .i64 ((ys.length : Nat) : Int)) (w' := w) rfl rfl rfl rfl (by simp [go_sem, sEv, sLook, nbeq, i64_w, -List.getD_eq_getElem?_getD]) ?_
  refine rw_val (v := .bool (((xs.length : Nat) : Int) != ((ys.length : Nat) : Int))) (w' := w) rfl rfl rfl rfl (by simp [go_sem, sEv, sLook, nbeq, i64_w, -List.getD_eq_getElem?_getD]) ?_
  refine rw_end ?_
  refine w_weaken (G' := [(0, .slice A1 xs.length c1), (1, .slice A2 ys.length c2), (4, .bool false), (10, .bool (((xs.length : Nat) : Int) != ((ys.length : Nat) : Int)))]) ⟨rfl, rfl, rfl, rfl, trivial⟩ ?_
  refine w_cond rfl rfl (fun cL => ?_) (fun cL => ?_)
  · have l1 : ¬ ((xs.length : Nat) : Int) = ((ys.length : Nat) : Int) := by simpa using cL
    refine w_seq ?_
    refine w_region ?_
    refine rw_val (v := .bool false) (w' := w) rfl rfl rfl rfl rfl ?_
    refine rw_end ?_
    refine w_ret (post_ret1 rfl rfl ?_)
    exact ⟨_, rfl, no_iff (len_ne (by omega)), (Below.refl _ _)⟩
  · have l2 : ((xs.length : Nat) : Int) = ((ys.length : Nat) : Int) := by simpa using cL
    refine w_skip ?_
    refine w_seq ?_
    refine w_seq ?_
    refine w_region ?_
    refine rw_val (v := .slice A1 xs.length c1) (w' := w) rfl rfl rfl rfl rfl ?_
    refine rw_val (v := .int .i64 ((xs.length : Nat) : Int)) (w' := w) rfl rfl rfl rfl (by simp [go_sem, sEv, sLook, nbeq, i64_w, -List.getD_eq_getElem?_getD]) ?_
    refine rw_val (v := .int .i64 0) (w' := w) rfl rfl rfl rfl rfl ?_
    refine rw_end ?_
    refine w_block ?_
    refine w_loop (fun m_ G W_ => ∃ (j : Nat), j + m_ = xs.length ∧ ys.length = xs.length ∧ Below w.heap.size w W_ ∧ (xs.take j = ys.take j) ∧ G = [(0, .slice A1 xs.length c1), (1, .slice A2 ys.length c2), (12, .int .i64 ((xs.length : Nat) : Int)), (13, .int .i64 ((j : Nat) : Int))]) xs.length [(0, .slice A1 xs.length c1), (1, .slice A2 ys.length c2), (12, .int .i64 ((xs.length : Nat) : Int)), (13, .int .i64 0)] ⟨0, by omega, by omega, (Below.refl _ _), (by simp), rfl⟩ ⟨rfl, rfl, rfl, rfl, trivial⟩ ?_
    rintro m_ G w_L3 ⟨j, hp4, hp5, hB_L3, hf6, rfl⟩
    have hs_w_L3 := hB_L3.size
    refine w_seq ?_
    refine w_region ?_
    refine rw_val (v := .bool (decide (((j : Nat) : Int) < ((xs.length : Nat) : Int)))) (w' := w_L3) rfl rfl rfl rfl (by simp [go_sem, sEv, sLook, nbeq, i64_w, -List.getD_eq_getElem?_getD]) ?_
    refine rw_end ?_
    refine w_seq ?_
    refine w_cond rfl rfl (fun cJ => ?_) (fun cJ => ?_)
    · have l7 : (((j : Nat) : Int) < ((xs.length : Nat) : Int)) := of_decide_eq_true cJ
      refine w_skip ?_
      refine w_seq ?_
      refine w_block ?_
      refine w_seq ?_
      refine w_region ?_
      refine rw_val (v := .int .i64 ((j : Nat) : Int)) (w' := w_L3) rfl rfl rfl rfl rfl ?_
      refine rw_val (v := .int .i64 ((j : Nat) : Int)) (w' := w_L3) rfl rfl rfl rfl rfl ?_
      refine rw_end ?_
      refine w_seq ?_
      obtain ⟨ad8, hA9, hc10⟩ := int_at (Kd.C_below h1 hB_L3) 0 j (by first | omega | decide)
      subst hA9
      have he11 : w_L3.cell? (ad8.add (j)) = some (.int .i64 (xs.getD j 0)) := cell_0 (hc10 0 _ rfl)
      obtain ⟨ad12, hA13, hc14⟩ := int_at (Kd.C_below h2 hB_L3) 0 j (by first | omega | decide)
      subst hA13
      have he15 : w_L3.cell? (ad12.add (j)) = some (.int .i64 (ys.getD j 0)) := cell_0 (hc14 0 _ rfl)
      refine w_drawk (M := [0, 0, 3, 7, 0, 0, 48, 112, 255]) (ss := [Is (.slice (some ad8) xs.length c1), Is (.int .i64 ((j : Nat) : Int)), Is (.pointer (some (ad8.add (j)))), Is (.int .i64 (xs.getD j 0)), Is (.slice (some ad12) ys.length c2), Is (.int .i64 ((j : Nat) : Int)), Is (.pointer (some (ad12.add (j)))), Is (.int .i64 (ys.getD j 0))]) 8 rfl (by decide +kernel) ?_
      refine t_is (.slice (some ad8) xs.length c1) rfl rfl rfl rfl (fun W_ hW_ F_ => rfl) ?_
      refine t_is (.int .i64 ((j : Nat) : Int)) rfl rfl rfl rfl (fun W_ hW_ F_ => rfl) ?_
      refine t_is (.pointer (some (ad8.add (j)))) rfl rfl rfl rfl (fun W_ hW_ F_ => (run_as (run_at_1 (P := Try.prog) (e := 3) (by kernel_rfl) (by kernel_rfl) j (by first | omega | decide) _))) ?_
      refine t_is (.int .i64 (xs.getD j 0)) rfl rfl rfl rfl (fun W_ hW_ F_ => by have e0_ := cellOn he11 (below_of_drew hW_); simp [go_sem, sEv, sLook, nbeq, i64_w, -List.getD_eq_getElem?_getD, e0_]) ?_
      refine t_is (.slice (some ad12) ys.length c2) rfl rfl rfl rfl (fun W_ hW_ F_ => rfl) ?_
      refine t_is (.int .i64 ((j : Nat) : Int)) rfl rfl rfl rfl (fun W_ hW_ F_ => rfl) ?_
      refine t_is (.pointer (some (ad12.add (j)))) rfl rfl rfl rfl (fun W_ hW_ F_ => (run_as (run_at_1 (P := Try.prog) (e := 3) (by kernel_rfl) (by kernel_rfl) j (by first | omega | decide) _))) ?_
      refine t_is (.int .i64 (ys.getD j 0)) rfl rfl rfl rfl (fun W_ hW_ F_ => by have e0_ := cellOn he15 (below_of_drew hW_); simp [go_sem, sEv, sLook, nbeq, i64_w, -List.getD_eq_getElem?_getD, e0_]) ?_
      refine t_tail ?_
      intro w16 hb17_ F18
      have hb17 := below_of_drew hb17_
      have hs_w16 := hb17.size
      clear F18
      refine rw_val (v := .bool ((xs.getD j 0) != (ys.getD j 0))) (w' := w16) rfl rfl rfl rfl (by simp [go_sem, sEv, sLook, nbeq, i64_w, -List.getD_eq_getElem?_getD]) ?_
      refine rw_end ?_
      refine w_weaken (G' := [(0, .slice (some ad8) xs.length c1), (1, .slice (some ad12) ys.length c2), (12, .int .i64 ((xs.length : Nat) : Int)), (13, .int .i64 ((j : Nat) : Int)), (24, .bool ((xs.getD j 0) != (ys.getD j 0)))]) ⟨rfl, rfl, rfl, rfl, rfl, trivial⟩ ?_
      refine w_cond rfl rfl (fun cD => ?_) (fun cD => ?_)
      · have l19 : ¬ (xs.getD j 0) = (ys.getD j 0) := by simpa using cD
        refine w_seq ?_
        refine w_region ?_
        refine rw_val (v := .bool false) (w' := w16) rfl rfl rfl rfl rfl ?_
        refine rw_end ?_
        refine w_ret (post_ret1 rfl rfl ?_)
        exact ⟨_, rfl, no_iff (getD_ne (z := 0) (j := j) (by simpa using cD)), (chain hB_L3 hb17)⟩
      · have l20 : (xs.getD j 0) = (ys.getD j 0) := by simpa using cD
        refine w_skip ?_
        refine w_blk ?_
        refine w_region ?_
        refine rw_val (v := .int .i64 ((j + 1 : Nat) : Int)) (w' := w16) rfl rfl rfl rfl (by simp [go_sem, sEv, sLook, nbeq, i64_w, -List.getD_eq_getElem?_getD]; exact wrap_id (by omega) (by omega)) ?_
        refine rw_val (v := .int .i64 ((j + 1 : Nat) : Int)) (w' := w16) rfl rfl rfl rfl rfl ?_
        refine rw_end ?_
        exact w_back (m_ - 1) [(0, .slice (some ad8) xs.length c1), (1, .slice (some ad12) ys.length c2), (12, .int .i64 ((xs.length : Nat) : Int)), (13, .int .i64 ((j + 1 : Nat) : Int))] (by omega) ⟨rfl, rfl, rfl, rfl, trivial⟩ ⟨(j + 1), by omega, by omega, (chain hB_L3 hb17), (take_eq_step (z := 0) (by omega) (by omega) hf6 (by simpa using cD)), rfl⟩
    · have l21 : ¬ (((j : Nat) : Int) < ((xs.length : Nat) : Int)) := of_decide_eq_false cJ
      refine w_exit rfl ?_
      refine w_seq ?_
      refine w_region ?_
      refine rw_val (v := .bool true) (w' := w_L3) rfl rfl rfl rfl rfl ?_
      refine rw_end ?_
      refine w_ret (post_ret1 rfl rfl ?_)
      exact ⟨_, rfl, yes_iff (take_eq_all (by omega) (by omega) hf6), hB_L3⟩
set_option maxHeartbeats 4000000 in
theorem equal_op (w : World) (A1 : Option Addr) (c1 : Nat) (A2 : Option Addr) (c2 : Nat) (xs ys : List OpL) (h1 : kOp.C w A1 xs.length xs) (hc1 : xs.length ≤ c1) (h2 : kOp.C w A2 ys.length ys) (hc2 : ys.length ≤ c2) (hl1 : xs.length ≤ 140737488355328) (hl2 : ys.length ≤ 140737488355328) :
    Calls Try.prog 44 #[.slice A1 xs.length c1, .slice A2 ys.length c2] w fun e w' => ∃ bb, e = .returned (.bool bb) ∧ (bb = true ↔ xs = ys) ∧ Below w.heap.size w w' := by
  refine calls_flow Try.func44 rfl 26 rfl (Nat.le_of_ble_eq_true rfl) [(0, .slice A1 xs.length c1), (1, .slice A2 ys.length c2)] ?_ ?_
  · intro t v h; exact args_look rfl t v h
  refine w_seq ?_
  refine w_region ?_
  refine rw_val (v := .bool false) (w' := w) rfl rfl rfl rfl rfl ?_
  refine rw_end ?_
  refine w_seq ?_
  refine w_seq ?_
  refine w_region ?_
  refine rw_val (v := .slice A1 xs.length c1) (w' := w) rfl rfl rfl rfl rfl ?_
  refine rw_val (v := .int .i64 ((xs.length : Nat) : Int)) (w' := w) rfl rfl rfl rfl (by simp [go_sem, sEv, sLook, nbeq, i64_w, -List.getD_eq_getElem?_getD]) ?_
  refine rw_val (v := .slice A2 ys.length c2) (w' := w) rfl rfl rfl rfl rfl ?_
  refine rw_val (v := .int .i64 ((ys.length : Nat) : Int)) (w' := w) rfl rfl rfl rfl (by simp [go_sem, sEv, sLook, nbeq, i64_w, -List.getD_eq_getElem?_getD]) ?_
  refine rw_val (v := .bool (((xs.length : Nat) : Int) != ((ys.length : Nat) : Int))) (w' := w) rfl rfl rfl rfl (by simp [go_sem, sEv, sLook, nbeq, i64_w, -List.getD_eq_getElem?_getD]) ?_
  refine rw_end ?_
  refine w_weaken (G' := [(0, .slice A1 xs.length c1), (1, .slice A2 ys.length c2), (4, .bool false), (10, .bool (((xs.length : Nat) : Int) != ((ys.length : Nat) : Int)))]) ⟨rfl, rfl, rfl, rfl, trivial⟩ ?_
  refine w_cond rfl rfl (fun cL => ?_) (fun cL => ?_)
  · have l1 : ¬ ((xs.length : Nat) : Int) = ((ys.length : Nat) : Int) := by simpa using cL
    refine w_seq ?_
    refine w_region ?_
    refine rw_val (v := .bool false) (w' := w) rfl rfl rfl rfl rfl ?_
    refine rw_end ?_
    refine w_ret (post_ret1 rfl rfl ?_)
    exact ⟨_, rfl, no_iff (len_ne (by omega)), (Below.refl _ _)⟩
  · have l2 : ((xs.length : Nat) : Int) = ((ys.length : Nat) : Int) := by simpa using cL
    refine w_skip ?_
    refine w_seq ?_
    refine w_seq ?_
    refine w_region ?_
    refine rw_val (v := .slice A1 xs.length c1) (w' := w) rfl rfl rfl rfl rfl ?_
    refine rw_val (v := .int .i64 ((xs.length : Nat) : Int)) (w' := w) rfl rfl rfl rfl (by simp [go_sem, sEv, sLook, nbeq, i64_w, -List.getD_eq_getElem?_getD]) ?_
    refine rw_val (v := .int .i64 0) (w' := w) rfl rfl rfl rfl rfl ?_
    refine rw_end ?_
    refine w_block ?_
    refine w_loop (fun m_ G W_ => ∃ (j : Nat), j + m_ = xs.length ∧ ys.length = xs.length ∧ Below w.heap.size w W_ ∧ (xs.take j = ys.take j) ∧ G = [(0, .slice A1 xs.length c1), (1, .slice A2 ys.length c2), (12, .int .i64 ((xs.length : Nat) : Int)), (13, .int .i64 ((j : Nat) : Int))]) xs.length [(0, .slice A1 xs.length c1), (1, .slice A2 ys.length c2), (12, .int .i64 ((xs.length : Nat) : Int)), (13, .int .i64 0)] ⟨0, by omega, by omega, (Below.refl _ _), (by simp), rfl⟩ ⟨rfl, rfl, rfl, rfl, trivial⟩ ?_
    rintro m_ G w_L3 ⟨j, hp4, hp5, hB_L3, hf6, rfl⟩
    have hs_w_L3 := hB_L3.size
    refine w_seq ?_
    refine w_region ?_
    refine rw_val (v := .bool (decide (((j : Nat) : Int) < ((xs.length : Nat) : Int)))) (w' := w_L3) rfl rfl rfl rfl (by simp [go_sem, sEv, sLook, nbeq, i64_w, -List.getD_eq_getElem?_getD]) ?_
    refine rw_end ?_
    refine w_seq ?_
    refine w_cond rfl rfl (fun cJ => ?_) (fun cJ => ?_)
    · have l7 : (((j : Nat) : Int) < ((xs.length : Nat) : Int)) := of_decide_eq_true cJ
      refine w_skip ?_
      refine w_seq ?_
      refine w_block ?_
      refine w_seq ?_
      refine w_region ?_
      refine rw_val (v := .int .i64 ((j : Nat) : Int)) (w' := w_L3) rfl rfl rfl rfl rfl ?_
      refine rw_val (v := .int .i64 ((j : Nat) : Int)) (w' := w_L3) rfl rfl rfl rfl rfl ?_
      refine rw_end ?_
      refine w_seq ?_
      obtain ⟨ad8, hA9, hc10⟩ := flat_at (Kd.C_below h1 hB_L3) (0, 0, 0, 0, 0) j (by first | omega | decide)
      subst hA9
      have he11 : w_L3.cell? (ad8.add (j * 5)) = some (.int .i64 ((xs.getD j (0, 0, 0, 0, 0)).1)) := cell_0 (hc10 0 _ rfl)
      have he12 : w_L3.cell? ⟨(ad8.add (j * 5)).block, (ad8.add (j * 5)).off + 1, none⟩ = some (.int .i64 ((xs.getD j (0, 0, 0, 0, 0)).2.1)) := cell_j (hc10 1 _ rfl)
      have he13 : w_L3.cell? ⟨(ad8.add (j * 5)).block, (ad8.add (j * 5)).off + 2, none⟩ = some (.int .i64 ((xs.getD j (0, 0, 0, 0, 0)).2.2.1)) := cell_j (hc10 2 _ rfl)
      have he14 : w_L3.cell? ⟨(ad8.add (j * 5)).block, (ad8.add (j * 5)).off + 3, none⟩ = some (.int .i64 ((xs.getD j (0, 0, 0, 0, 0)).2.2.2.1)) := cell_j (hc10 3 _ rfl)
      have he15 : w_L3.cell? ⟨(ad8.add (j * 5)).block, (ad8.add (j * 5)).off + 4, none⟩ = some (.int .i64 ((xs.getD j (0, 0, 0, 0, 0)).2.2.2.2)) := cell_j (hc10 4 _ rfl)
      obtain ⟨ad16, hA17, hc18⟩ := flat_at (Kd.C_below h2 hB_L3) (0, 0, 0, 0, 0) j (by first | omega | decide)
      subst hA17
      have he19 : w_L3.cell? (ad16.add (j * 5)) = some (.int .i64 ((ys.getD j (0, 0, 0, 0, 0)).1)) := cell_0 (hc18 0 _ rfl)
      have he20 : w_L3.cell? ⟨(ad16.add (j * 5)).block, (ad16.add (j * 5)).off + 1, none⟩ = some (.int .i64 ((ys.getD j (0, 0, 0, 0, 0)).2.1)) := cell_j (hc18 1 _ rfl)
      have he21 : w_L3.cell? ⟨(ad16.add (j * 5)).block, (ad16.add (j * 5)).off + 2, none⟩ = some (.int .i64 ((ys.getD j (0, 0, 0, 0, 0)).2.2.1)) := cell_j (hc18 2 _ rfl)
      have he22 : w_L3.cell? ⟨(ad16.add (j * 5)).block, (ad16.add (j * 5)).off + 3, none⟩ = some (.int .i64 ((ys.getD j (0, 0, 0, 0, 0)).2.2.2.1)) := cell_j (hc18 3 _ rfl)
      have he23 : w_L3.cell? ⟨(ad16.add (j * 5)).block, (ad16.add (j * 5)).off + 4, none⟩ = some (.int .i64 ((ys.getD j (0, 0, 0, 0, 0)).2.2.2.2)) := cell_j (hc18 4 _ rfl)
      refine w_drawk (M := [0, 0, 3, 7, 0, 0, 48, 112, 255]) (ss := [Is (.slice (some ad8) xs.length c1), Is (.int .i64 ((j : Nat) : Int)), Is (.pointer (some (ad8.add (j * 5)))), Is (.agg #[.int .i64 ((xs.getD j (0, 0, 0, 0, 0)).1), .int .i64 ((xs.getD j (0, 0, 0, 0, 0)).2.1), .int .i64 ((xs.getD j (0, 0, 0, 0, 0)).2.2.1), .int .i64 ((xs.getD j (0, 0, 0, 0, 0)).2.2.2.1), .int .i64 ((xs.getD j (0, 0, 0, 0, 0)).2.2.2.2)]), Is (.slice (some ad16) ys.length c2), Is (.int .i64 ((j : Nat) : Int)), Is (.pointer (some (ad16.add (j * 5)))), Is (.agg #[.int .i64 ((ys.getD j (0, 0, 0, 0, 0)).1), .int .i64 ((ys.getD j (0, 0, 0, 0, 0)).2.1), .int .i64 ((ys.getD j (0, 0, 0, 0, 0)).2.2.1), .int .i64 ((ys.getD j (0, 0, 0, 0, 0)).2.2.2.1), .int .i64 ((ys.getD j (0, 0, 0, 0, 0)).2.2.2.2)])]) 8 rfl (by decide +kernel) ?_
      refine t_is (.slice (some ad8) xs.length c1) rfl rfl rfl rfl (fun W_ hW_ F_ => rfl) ?_
      refine t_is (.int .i64 ((j : Nat) : Int)) rfl rfl rfl rfl (fun W_ hW_ F_ => rfl) ?_
      refine t_is (.pointer (some (ad8.add (j * 5)))) rfl rfl rfl rfl (fun W_ hW_ F_ => (run_as (run_at_k (P := Try.prog) (e := 73) (sz := 5) (by kernel_rfl) (by kernel_rfl) j (by first | omega | decide) _))) ?_
      refine t_is (.agg #[.int .i64 ((xs.getD j (0, 0, 0, 0, 0)).1), .int .i64 ((xs.getD j (0, 0, 0, 0, 0)).2.1), .int .i64 ((xs.getD j (0, 0, 0, 0, 0)).2.2.1), .int .i64 ((xs.getD j (0, 0, 0, 0, 0)).2.2.2.1), .int .i64 ((xs.getD j (0, 0, 0, 0, 0)).2.2.2.2)]) rfl rfl rfl rfl (fun W_ hW_ F_ => by have e0_ := cellOn he11 (below_of_drew hW_); have e1_ := cellOn he12 (below_of_drew hW_); have e2_ := cellOn he13 (below_of_drew hW_); have e3_ := cellOn he14 (below_of_drew hW_); have e4_ := cellOn he15 (below_of_drew hW_); simp [go_sem, sEv, sLook, nbeq, i64_w, -List.getD_eq_getElem?_getD, e0_, e1_, e2_, e3_, e4_, Try.underlying73]) ?_
      refine t_is (.slice (some ad16) ys.length c2) rfl rfl rfl rfl (fun W_ hW_ F_ => rfl) ?_
      refine t_is (.int .i64 ((j : Nat) : Int)) rfl rfl rfl rfl (fun W_ hW_ F_ => rfl) ?_
      refine t_is (.pointer (some (ad16.add (j * 5)))) rfl rfl rfl rfl (fun W_ hW_ F_ => (run_as (run_at_k (P := Try.prog) (e := 73) (sz := 5) (by kernel_rfl) (by kernel_rfl) j (by first | omega | decide) _))) ?_
      refine t_is (.agg #[.int .i64 ((ys.getD j (0, 0, 0, 0, 0)).1), .int .i64 ((ys.getD j (0, 0, 0, 0, 0)).2.1), .int .i64 ((ys.getD j (0, 0, 0, 0, 0)).2.2.1), .int .i64 ((ys.getD j (0, 0, 0, 0, 0)).2.2.2.1), .int .i64 ((ys.getD j (0, 0, 0, 0, 0)).2.2.2.2)]) rfl rfl rfl rfl (fun W_ hW_ F_ => by have e0_ := cellOn he19 (below_of_drew hW_); have e1_ := cellOn he20 (below_of_drew hW_); have e2_ := cellOn he21 (below_of_drew hW_); have e3_ := cellOn he22 (below_of_drew hW_); have e4_ := cellOn he23 (below_of_drew hW_); simp [go_sem, sEv, sLook, nbeq, i64_w, -List.getD_eq_getElem?_getD, e0_, e1_, e2_, e3_, e4_, Try.underlying73]) ?_
      refine t_tail ?_
      intro w24 hb25_ F26
      have hb25 := below_of_drew hb25_
      have hs_w24 := hb25.size
      clear F26
      refine rw_val (v := .bool (!(((xs.getD j (0, 0, 0, 0, 0)).1) == ((ys.getD j (0, 0, 0, 0, 0)).1) && (((xs.getD j (0, 0, 0, 0, 0)).2.1) == ((ys.getD j (0, 0, 0, 0, 0)).2.1) && (((xs.getD j (0, 0, 0, 0, 0)).2.2.1) == ((ys.getD j (0, 0, 0, 0, 0)).2.2.1) && (((xs.getD j (0, 0, 0, 0, 0)).2.2.2.1) == ((ys.getD j (0, 0, 0, 0, 0)).2.2.2.1) && (((xs.getD j (0, 0, 0, 0, 0)).2.2.2.2) == ((ys.getD j (0, 0, 0, 0, 0)).2.2.2.2)))))))) (w' := w24) rfl rfl rfl rfl (by simp [go_sem, sEv, sLook, nbeq, i64_w, -List.getD_eq_getElem?_getD, eqA73]) ?_
      refine rw_end ?_
      refine w_weaken (G' := [(0, .slice (some ad8) xs.length c1), (1, .slice (some ad16) ys.length c2), (12, .int .i64 ((xs.length : Nat) : Int)), (13, .int .i64 ((j : Nat) : Int)), (24, .bool (!(((xs.getD j (0, 0, 0, 0, 0)).1) == ((ys.getD j (0, 0, 0, 0, 0)).1) && (((xs.getD j (0, 0, 0, 0, 0)).2.1) == ((ys.getD j (0, 0, 0, 0, 0)).2.1) && (((xs.getD j (0, 0, 0, 0, 0)).2.2.1) == ((ys.getD j (0, 0, 0, 0, 0)).2.2.1) && (((xs.getD j (0, 0, 0, 0, 0)).2.2.2.1) == ((ys.getD j (0, 0, 0, 0, 0)).2.2.2.1) && (((xs.getD j (0, 0, 0, 0, 0)).2.2.2.2) == ((ys.getD j (0, 0, 0, 0, 0)).2.2.2.2))))))))]) ⟨rfl, rfl, rfl, rfl, rfl, trivial⟩ ?_
      refine w_cond rfl rfl (fun cD => ?_) (fun cD => ?_)
      · refine w_seq ?_
        refine w_region ?_
        refine rw_val (v := .bool false) (w' := w24) rfl rfl rfl rfl rfl ?_
        refine rw_end ?_
        refine w_ret (post_ret1 rfl rfl ?_)
        exact ⟨_, rfl, no_iff (getD_ne (z := (0, 0, 0, 0, 0)) (j := j) (fun e_ => by rw [e_] at cD; simp at cD)), (chain hB_L3 hb25)⟩
      · refine w_skip ?_
        refine w_blk ?_
        refine w_region ?_
        refine rw_val (v := .int .i64 ((j + 1 : Nat) : Int)) (w' := w24) rfl rfl rfl rfl (by simp [go_sem, sEv, sLook, nbeq, i64_w, -List.getD_eq_getElem?_getD]; exact wrap_id (by omega) (by omega)) ?_
        refine rw_val (v := .int .i64 ((j + 1 : Nat) : Int)) (w' := w24) rfl rfl rfl rfl rfl ?_
        refine rw_end ?_
        exact w_back (m_ - 1) [(0, .slice (some ad8) xs.length c1), (1, .slice (some ad16) ys.length c2), (12, .int .i64 ((xs.length : Nat) : Int)), (13, .int .i64 ((j + 1 : Nat) : Int))] (by omega) ⟨rfl, rfl, rfl, rfl, trivial⟩ ⟨(j + 1), by omega, by omega, (chain hB_L3 hb25), (take_eq_step (z := (0, 0, 0, 0, 0)) (by omega) (by omega) hf6 (by simp only [Bool.not_eq_false', Bool.not_false, Bool.and_eq_true, beq_iff_eq] at cD; obtain ⟨q1, q2, q3, q4, q5⟩ := cD; exact Prod.ext q1 (Prod.ext q2 (Prod.ext q3 (Prod.ext q4 q5))))), rfl⟩
    · have l27 : ¬ (((j : Nat) : Int) < ((xs.length : Nat) : Int)) := of_decide_eq_false cJ
      refine w_exit rfl ?_
      refine w_seq ?_
      refine w_region ?_
      refine rw_val (v := .bool true) (w' := w_L3) rfl rfl rfl rfl rfl ?_
      refine rw_end ?_
      refine w_ret (post_ret1 rfl rfl ?_)
      exact ⟨_, rfl, yes_iff (take_eq_all (by omega) (by omega) hf6), hB_L3⟩
set_option maxHeartbeats 4000000 in
theorem equal_ent (w : World) (A1 : Option Addr) (c1 : Nat) (A2 : Option Addr) (c2 : Nat) (xs ys : List EL) (h1 : kEntry.C w A1 xs.length xs) (hc1 : xs.length ≤ c1) (h2 : kEntry.C w A2 ys.length ys) (hc2 : ys.length ≤ c2) (hl1 : xs.length ≤ 140737488355328) (hl2 : ys.length ≤ 140737488355328) :
    Calls Try.prog 45 #[.slice A1 xs.length c1, .slice A2 ys.length c2] w fun e w' => ∃ bb, e = .returned (.bool bb) ∧ (bb = true ↔ xs = ys) ∧ Below w.heap.size w w' := by
  refine calls_flow Try.func45 rfl 26 rfl (Nat.le_of_ble_eq_true rfl) [(0, .slice A1 xs.length c1), (1, .slice A2 ys.length c2)] ?_ ?_
  · intro t v h; exact args_look rfl t v h
  refine w_seq ?_
  refine w_region ?_
  refine rw_val (v := .bool false) (w' := w) rfl rfl rfl rfl rfl ?_
  refine rw_end ?_
  refine w_seq ?_
  refine w_seq ?_
  refine w_region ?_
  refine rw_val (v := .slice A1 xs.length c1) (w' := w) rfl rfl rfl rfl rfl ?_
  refine rw_val (v := .int .i64 ((xs.length : Nat) : Int)) (w' := w) rfl rfl rfl rfl (by simp [go_sem, sEv, sLook, nbeq, i64_w, -List.getD_eq_getElem?_getD]) ?_
  refine rw_val (v := .slice A2 ys.length c2) (w' := w) rfl rfl rfl rfl rfl ?_
  refine rw_val (v := .int .i64 ((ys.length : Nat) : Int)) (w' := w) rfl rfl rfl rfl (by simp [go_sem, sEv, sLook, nbeq, i64_w, -List.getD_eq_getElem?_getD]) ?_
  refine rw_val (v := .bool (((xs.length : Nat) : Int) != ((ys.length : Nat) : Int))) (w' := w) rfl rfl rfl rfl (by simp [go_sem, sEv, sLook, nbeq, i64_w, -List.getD_eq_getElem?_getD]) ?_
  refine rw_end ?_
  refine w_weaken (G' := [(0, .slice A1 xs.length c1), (1, .slice A2 ys.length c2), (4, .bool false), (10, .bool (((xs.length : Nat) : Int) != ((ys.length : Nat) : Int)))]) ⟨rfl, rfl, rfl, rfl, trivial⟩ ?_
  refine w_cond rfl rfl (fun cL => ?_) (fun cL => ?_)
  · have l1 : ¬ ((xs.length : Nat) : Int) = ((ys.length : Nat) : Int) := by simpa using cL
    refine w_seq ?_
    refine w_region ?_
    refine rw_val (v := .bool false) (w' := w) rfl rfl rfl rfl rfl ?_
    refine rw_end ?_
    refine w_ret (post_ret1 rfl rfl ?_)
    exact ⟨_, rfl, no_iff (len_ne (by omega)), (Below.refl _ _)⟩
  · have l2 : ((xs.length : Nat) : Int) = ((ys.length : Nat) : Int) := by simpa using cL
    refine w_skip ?_
    refine w_seq ?_
    refine w_seq ?_
    refine w_region ?_
    refine rw_val (v := .slice A1 xs.length c1) (w' := w) rfl rfl rfl rfl rfl ?_
    refine rw_val (v := .int .i64 ((xs.length : Nat) : Int)) (w' := w) rfl rfl rfl rfl (by simp [go_sem, sEv, sLook, nbeq, i64_w, -List.getD_eq_getElem?_getD]) ?_
    refine rw_val (v := .int .i64 0) (w' := w) rfl rfl rfl rfl rfl ?_
    refine rw_end ?_
    refine w_block ?_
    refine w_loop (fun m_ G W_ => ∃ (j : Nat), j + m_ = xs.length ∧ ys.length = xs.length ∧ Below w.heap.size w W_ ∧ (xs.take j = ys.take j) ∧ G = [(0, .slice A1 xs.length c1), (1, .slice A2 ys.length c2), (12, .int .i64 ((xs.length : Nat) : Int)), (13, .int .i64 ((j : Nat) : Int))]) xs.length [(0, .slice A1 xs.length c1), (1, .slice A2 ys.length c2), (12, .int .i64 ((xs.length : Nat) : Int)), (13, .int .i64 0)] ⟨0, by omega, by omega, (Below.refl _ _), (by simp), rfl⟩ ⟨rfl, rfl, rfl, rfl, trivial⟩ ?_
    rintro m_ G w_L3 ⟨j, hp4, hp5, hB_L3, hf6, rfl⟩
    have hs_w_L3 := hB_L3.size
    refine w_seq ?_
    refine w_region ?_
    refine rw_val (v := .bool (decide (((j : Nat) : Int) < ((xs.length : Nat) : Int)))) (w' := w_L3) rfl rfl rfl rfl (by simp [go_sem, sEv, sLook, nbeq, i64_w, -List.getD_eq_getElem?_getD]) ?_
    refine rw_end ?_
    refine w_seq ?_
    refine w_cond rfl rfl (fun cJ => ?_) (fun cJ => ?_)
    · have l7 : (((j : Nat) : Int) < ((xs.length : Nat) : Int)) := of_decide_eq_true cJ
      refine w_skip ?_
      refine w_seq ?_
      refine w_block ?_
      refine w_seq ?_
      refine w_region ?_
      refine rw_val (v := .int .i64 ((j : Nat) : Int)) (w' := w_L3) rfl rfl rfl rfl rfl ?_
      refine rw_val (v := .int .i64 ((j : Nat) : Int)) (w' := w_L3) rfl rfl rfl rfl rfl ?_
      refine rw_end ?_
      refine w_seq ?_
      obtain ⟨ad8, hA9, hc10⟩ := flat_at (Kd.C_below h1 hB_L3) EL.zero j (by first | omega | decide)
      subst hA9
      obtain ⟨ad11, hA12, hc13⟩ := flat_at (Kd.C_below h2 hB_L3) EL.zero j (by first | omega | decide)
      subst hA12
      refine w_drawk (M := [0, 0, 3, 7, 0, 0, 48, 112, 255]) (ss := [Is (.slice (some ad8) xs.length c1), Is (.int .i64 ((j : Nat) : Int)), Is (.pointer (some (ad8.add (j * 76)))), Is (.agg (earr (xs.getD j EL.zero))), Is (.slice (some ad11) ys.length c2), Is (.int .i64 ((j : Nat) : Int)), Is (.pointer (some (ad11.add (j * 76)))), Is (.agg (earr (ys.getD j EL.zero)))]) 8 rfl (by decide +kernel) ?_
      refine t_is (.slice (some ad8) xs.length c1) rfl rfl rfl rfl (fun W_ hW_ F_ => rfl) ?_
      refine t_is (.int .i64 ((j : Nat) : Int)) rfl rfl rfl rfl (fun W_ hW_ F_ => rfl) ?_
      refine t_is (.pointer (some (ad8.add (j * 76)))) rfl rfl rfl rfl (fun W_ hW_ F_ => (run_as (run_at_k (P := Try.prog) (e := 83) (sz := 76) (by kernel_rfl) (by kernel_rfl) j (by first | omega | decide) _))) ?_
      refine t_is (.agg (earr (xs.getD j EL.zero))) rfl rfl rfl rfl (fun W_ hW_ F_ => (run_as (load_eel (x := (xs.getD j EL.zero)) (fun j u hj => cellOn (hc10 j u hj) (chain (Below.refl _ _) (below_of_drew hW_)))))) ?_
      refine t_is (.slice (some ad11) ys.length c2) rfl rfl rfl rfl (fun W_ hW_ F_ => rfl) ?_
      refine t_is (.int .i64 ((j : Nat) : Int)) rfl rfl rfl rfl (fun W_ hW_ F_ => rfl) ?_
      refine t_is (.pointer (some (ad11.add (j * 76)))) rfl rfl rfl rfl (fun W_ hW_ F_ => (run_as (run_at_k (P := Try.prog) (e := 83) (sz := 76) (by kernel_rfl) (by kernel_rfl) j (by first | omega | decide) _))) ?_
      refine t_is (.agg (earr (ys.getD j EL.zero))) rfl rfl rfl rfl (fun W_ hW_ F_ => (run_as (load_eel (x := (ys.getD j EL.zero)) (fun j u hj => cellOn (hc13 j u hj) (chain (Below.refl _ _) (below_of_drew hW_)))))) ?_
      refine t_tail ?_
      intro w14 hb15_ F16
      have hb15 := below_of_drew hb15_
      have hs_w14 := hb15.size
      clear F16
      refine rw_val (v := .bool (!(eqE (xs.getD j EL.zero) (ys.getD j EL.zero)))) (w' := w14) rfl rfl rfl rfl (run_as (guard_ne_entry _ _ _ _ _)) ?_
      refine rw_end ?_
      refine w_weaken (G' := [(0, .slice (some ad8) xs.length c1), (1, .slice (some ad11) ys.length c2), (12, .int .i64 ((xs.length : Nat) : Int)), (13, .int .i64 ((j : Nat) : Int)), (24, .bool (!(eqE (xs.getD j EL.zero) (ys.getD j EL.zero))))]) ⟨rfl, rfl, rfl, rfl, rfl, trivial⟩ ?_
      refine w_cond rfl rfl (fun cD => ?_) (fun cD => ?_)
      · refine w_seq ?_
        refine w_region ?_
        refine rw_val (v := .bool false) (w' := w14) rfl rfl rfl rfl rfl ?_
        refine rw_end ?_
        refine w_ret (post_ret1 rfl rfl ?_)
        exact ⟨_, rfl, no_iff (getD_ne (z := EL.zero) (j := j) (fun e_ => by rw [e_] at cD; simp [eqE_self] at cD)), (chain hB_L3 hb15)⟩
      · refine w_skip ?_
        refine w_blk ?_
        refine w_region ?_
        refine rw_val (v := .int .i64 ((j + 1 : Nat) : Int)) (w' := w14) rfl rfl rfl rfl (by simp [go_sem, sEv, sLook, nbeq, i64_w, -List.getD_eq_getElem?_getD]; exact wrap_id (by omega) (by omega)) ?_
        refine rw_val (v := .int .i64 ((j + 1 : Nat) : Int)) (w' := w14) rfl rfl rfl rfl rfl ?_
        refine rw_end ?_
        exact w_back (m_ - 1) [(0, .slice (some ad8) xs.length c1), (1, .slice (some ad11) ys.length c2), (12, .int .i64 ((xs.length : Nat) : Int)), (13, .int .i64 ((j + 1 : Nat) : Int))] (by omega) ⟨rfl, rfl, rfl, rfl, trivial⟩ ⟨(j + 1), by omega, by omega, (chain hB_L3 hb15), (take_eq_step (z := EL.zero) (by omega) (by omega) hf6 ((eqE_iff _ _).1 (by simpa using cD))), rfl⟩
    · have l17 : ¬ (((j : Nat) : Int) < ((xs.length : Nat) : Int)) := of_decide_eq_false cJ
      refine w_exit rfl ?_
      refine w_seq ?_
      refine w_region ?_
      refine rw_val (v := .bool true) (w' := w_L3) rfl rfl rfl rfl rfl ?_
      refine rw_end ?_
      refine w_ret (post_ret1 rfl rfl ?_)
      exact ⟨_, rfl, yes_iff (take_eq_all (by omega) (by omega) hf6), hB_L3⟩
theorem same_iff (m n : NT) : m = n ↔ (m.kind = n.kind ∧ m.fr = n.fr ∧ m.tw = n.tw) ∧ (m.nums = n.nums ∧ m.ops = n.ops ∧ m.ents = n.ents) := by
  cases m
  cases n
  simp [and_assoc]
set_option maxHeartbeats 4000000 in
theorem same_calls (w : World) (m n : NT) (A3 : Option Addr) (c3 : Nat) (A4 : Option Addr) (c4 : Nat) (A5 : Option Addr) (c5 : Nat) (hn3 : (Kd.int .i64).C w A3 m.nums.length m.nums) (hc3 : m.nums.length ≤ c3) (hk3 : m.nums.length ≤ 140737488355328) (hn4 : kOp.C w A4 m.ops.length m.ops) (hc4 : m.ops.length ≤ c4) (hk4 : m.ops.length ≤ 140737488355328) (hn5 : kEntry.C w A5 m.ents.length m.ents) (hc5 : m.ents.length ≤ c5) (hk5 : m.ents.length ≤ 140737488355328) (A6 : Option Addr) (c6 : Nat) (A7 : Option Addr) (c7 : Nat) (A8 : Option Addr) (c8 : Nat) (hn6 : (Kd.int .i64).C w A6 n.nums.length n.nums) (hc6 : n.nums.length ≤ c6) (hk6 : n.nums.length ≤ 140737488355328) (hn7 : kOp.C w A7 n.ops.length n.ops) (hc7 : n.ops.length ≤ c7) (hk7 : n.ops.length ≤ 140737488355328) (hn8 : kEntry.C w A8 n.ents.length n.ents) (hc8 : n.ents.length ≤ c8) (hk8 : n.ents.length ≤ 140737488355328) :
    Calls Try.prog 22 #[.agg #[.int .i64 m.kind, .int .i64 m.fr, .int .i64 m.tw, .slice A3 m.nums.length c3, .slice A4 m.ops.length c4, .slice A5 m.ents.length c5], .agg #[.int .i64 n.kind, .int .i64 n.fr, .int .i64 n.tw, .slice A6 n.nums.length c6, .slice A7 n.ops.length c7, .slice A8 n.ents.length c8]] w fun e w' => ∃ bb, e = .returned (.bool bb) ∧ (bb = true ↔ m = n) ∧ Below w.heap.size w w' := by
  refine calls_flow Try.func22 rfl 45 rfl (Nat.le_of_ble_eq_true rfl) [(0, .agg #[.int .i64 m.kind, .int .i64 m.fr, .int .i64 m.tw, .slice A3 m.nums.length c3, .slice A4 m.ops.length c4, .slice A5 m.ents.length c5]), (1, .agg #[.int .i64 n.kind, .int .i64 n.fr, .int .i64 n.tw, .slice A6 n.nums.length c6, .slice A7 n.ops.length c7, .slice A8 n.ents.length c8])] ?_ ?_
  · intro t v h; exact args_look rfl t v h
  refine w_seq ?_
  refine w_region ?_
  refine rw_new (cs := #[.int .i64 m.kind, .int .i64 m.fr, .int .i64 m.tw, .slice A3 m.nums.length c3, .slice A4 m.ops.length c4, .slice A5 m.ents.length c5]) (t := 26) (fun g => .pointer (some ⟨g, 0, none⟩)) rfl rfl rfl rfl (by simp [go_sem, sEv, sLook, nbeq, i64_w, -List.getD_eq_getElem?_getD]) ?_
  intro g1 w2 hg6 hz5 hb3 hk4
  have hs_w2 := hb3.size
  refine rw_new (cs := #[.int .i64 n.kind, .int .i64 n.fr, .int .i64 n.tw, .slice A6 n.nums.length c6, .slice A7 n.ops.length c7, .slice A8 n.ents.length c8]) (t := 26) (fun g => .pointer (some ⟨g, 0, none⟩)) rfl rfl rfl rfl (by simp [go_sem, sEv, sLook, nbeq, i64_w, -List.getD_eq_getElem?_getD]) ?_
  intro g7 w8 hg12 hz11 hb9 hk10
  have hs_w8 := hb9.size
  refine rw_val (v := .bool false) (w' := w8) rfl rfl rfl rfl rfl ?_
  refine rw_end ?_
  refine w_seq ?_
  refine w_region ?_
  refine rw_val (v := .pointer (some ⟨g1, 0, none⟩)) (w' := w8) rfl rfl rfl rfl (by simp [go_sem, sEv, sLook, nbeq, i64_w, -List.getD_eq_getElem?_getD, Try.underlying26]) ?_
  refine rw_val (v := .int .i64 m.kind) (w' := w8) rfl rfl rfl rfl (by have eb_ := (hk4.on hb9); have e0_ := eb_.cellv (i := 0) (v := (.int .i64 m.kind : Value)) rfl; simp [go_sem, sEv, sLook, nbeq, i64_w, -List.getD_eq_getElem?_getD, e0_]) ?_
  refine rw_val (v := .pointer (some ⟨g7, 0, none⟩)) (w' := w8) rfl rfl rfl rfl (by simp [go_sem, sEv, sLook, nbeq, i64_w, -List.getD_eq_getElem?_getD, Try.underlying26]) ?_
  refine rw_val (v := .int .i64 n.kind) (w' := w8) rfl rfl rfl rfl (by have eb_ := hk10; have e0_ := eb_.cellv (i := 0) (v := (.int .i64 n.kind : Value)) rfl; simp [go_sem, sEv, sLook, nbeq, i64_w, -List.getD_eq_getElem?_getD, e0_]) ?_
  refine rw_val (v := .bool (m.kind == n.kind)) (w' := w8) rfl rfl rfl rfl (by simp [go_sem, sEv, sLook, nbeq, i64_w, -List.getD_eq_getElem?_getD]) ?_
  refine rw_val (v := .bool (m.kind == n.kind)) (w' := w8) rfl rfl rfl rfl rfl ?_
  rcases bcase (m.kind == n.kind) with cK | cK
  · have l13 : ¬ m.kind = n.kind := by simpa using cK
    refine rw_off (c := (m.kind == n.kind)) rfl rfl rfl (by first | (rw [cK]; rfl) | simp [cK]) rfl rfl ?_
    refine rw_off (c := (m.kind == n.kind)) rfl rfl rfl (by first | (rw [cK]; rfl) | simp [cK]) rfl rfl ?_
    refine rw_off (c := (m.kind == n.kind)) rfl rfl rfl (by first | (rw [cK]; rfl) | simp [cK]) rfl rfl ?_
    refine rw_off (c := (m.kind == n.kind)) rfl rfl rfl (by first | (rw [cK]; rfl) | simp [cK]) rfl rfl ?_
    refine rw_off (c := (m.kind == n.kind)) rfl rfl rfl (by first | (rw [cK]; rfl) | simp [cK]) rfl rfl ?_
    refine rw_val (v := .bool false) (w' := w8) rfl rfl rfl rfl (by first | (simp [go_sem, sEv, sLook, nbeq, i64_w, -List.getD_eq_getElem?_getD, cK]; done) | (rw [cK]; simp [go_sem, sEv, sLook, nbeq, i64_w, -List.getD_eq_getElem?_getD]; done) | (simp [go_sem, sEv, sLook, nbeq, i64_w, -List.getD_eq_getElem?_getD] <;> omega) | (simp [go_sem, sEv, sLook, nbeq, i64_w, -List.getD_eq_getElem?_getD]; intro h_; exact absurd (by omega) h_)) ?_
    refine rw_val (v := .bool false) (w' := w8) rfl rfl rfl rfl rfl ?_
    refine rw_off (c := false) rfl rfl rfl rfl rfl rfl ?_
    refine rw_off (c := false) rfl rfl rfl rfl rfl rfl ?_
    refine rw_off (c := false) rfl rfl rfl rfl rfl rfl ?_
    refine rw_off (c := false) rfl rfl rfl rfl rfl rfl ?_
    refine rw_off (c := false) rfl rfl rfl rfl rfl rfl ?_
    refine rw_val (v := .bool false) (w' := w8) rfl rfl rfl rfl (by simp [go_sem, sEv, sLook, nbeq, i64_w, -List.getD_eq_getElem?_getD]) ?_
    refine rw_val (v := .bool false) (w' := w8) rfl rfl rfl rfl rfl ?_
    refine rw_off (c := false) rfl rfl rfl rfl rfl rfl ?_
    refine rw_off (c := false) rfl rfl rfl rfl rfl rfl ?_
    refine rw_off (c := false) rfl rfl rfl rfl rfl rfl ?_
    refine rw_off (c := false) rfl rfl rfl rfl rfl rfl ?_
    refine rw_off (c := false) rfl rfl rfl rfl rfl rfl ?_
    refine rw_val (v := .bool false) (w' := w8) rfl rfl rfl rfl (by simp [go_sem, sEv, sLook, nbeq, i64_w, -List.getD_eq_getElem?_getD]) ?_
    refine rw_val (v := .bool false) (w' := w8) rfl rfl rfl rfl rfl ?_
    refine rw_off (c := false) rfl rfl rfl rfl rfl rfl ?_
    refine rw_off (c := false) rfl rfl rfl rfl rfl rfl ?_
    refine rw_off (c := false) rfl rfl rfl rfl rfl rfl ?_
    refine rw_off (c := false) rfl rfl rfl rfl rfl rfl ?_
    refine rw_off (c := false) rfl rfl rfl rfl rfl rfl ?_
    refine rw_val (v := .bool false) (w' := w8) rfl rfl rfl rfl (by simp [go_sem, sEv, sLook, nbeq, i64_w, -List.getD_eq_getElem?_getD]) ?_
    refine rw_val (v := .bool false) (w' := w8) rfl rfl rfl rfl rfl ?_
    refine rw_off (c := false) rfl rfl rfl rfl rfl rfl ?_
    refine rw_off (c := false) rfl rfl rfl rfl rfl rfl ?_
    refine rw_off (c := false) rfl rfl rfl rfl rfl rfl ?_
    refine rw_off (c := false) rfl rfl rfl rfl rfl rfl ?_
    refine rw_off (c := false) rfl rfl rfl rfl rfl rfl ?_
    refine rw_val (v := .bool false) (w' := w8) rfl rfl rfl rfl (by simp [go_sem, sEv, sLook, nbeq, i64_w, -List.getD_eq_getElem?_getD]) ?_
    refine rw_val (v := .bool false) (w' := w8) rfl rfl rfl rfl rfl ?_
    refine rw_end ?_
    refine w_weaken (G' := [(4, .bool false)]) ⟨rfl, trivial⟩ ?_
    refine w_ret (post_ret1 rfl rfl ?_)
    refine ⟨_, rfl, ?_, (chain hb3 hb9)⟩
    rw [same_iff]
    first | (simp_all; done) | (refine no_iff (fun h_ => ?_); obtain ⟨⟨q1, q2, q3⟩, q4, q5, q6⟩ := h_; first | omega | (simp_all; done))
  · have l14 : m.kind = n.kind := by simpa using cK
    refine rw_on (c := (m.kind == n.kind)) rfl rfl rfl (by first | (rw [cK]; rfl) | simp [cK]) ?_
    refine rw_val (v := .pointer (some ⟨g1, 1, none⟩)) (w' := w8) rfl rfl rfl rfl (by simp [go_sem, sEv, sLook, nbeq, i64_w, -List.getD_eq_getElem?_getD, Try.underlying26]) ?_
    refine rw_on (c := (m.kind == n.kind)) rfl rfl rfl (by first | (rw [cK]; rfl) | simp [cK]) ?_
    refine rw_val (v := .int .i64 m.fr) (w' := w8) rfl rfl rfl rfl (by have eb_ := (hk4.on hb9); have e0_ := eb_.cellv (i := 1) (v := (.int .i64 m.fr : Value)) rfl; simp [go_sem, sEv, sLook, nbeq, i64_w, -List.getD_eq_getElem?_getD, e0_]) ?_
    refine rw_on (c := (m.kind == n.kind)) rfl rfl rfl (by first | (rw [cK]; rfl) | simp [cK]) ?_
    refine rw_val (v := .pointer (some ⟨g7, 1, none⟩)) (w' := w8) rfl rfl rfl rfl (by simp [go_sem, sEv, sLook, nbeq, i64_w, -List.getD_eq_getElem?_getD, Try.underlying26]) ?_
    refine rw_on (c := (m.kind == n.kind)) rfl rfl rfl (by first | (rw [cK]; rfl) | simp [cK]) ?_
    refine rw_val (v := .int .i64 n.fr) (w' := w8) rfl rfl rfl rfl (by have eb_ := hk10; have e0_ := eb_.cellv (i := 1) (v := (.int .i64 n.fr : Value)) rfl; simp [go_sem, sEv, sLook, nbeq, i64_w, -List.getD_eq_getElem?_getD, e0_]) ?_
    refine rw_on (c := (m.kind == n.kind)) rfl rfl rfl (by first | (rw [cK]; rfl) | simp [cK]) ?_
    refine rw_val (v := .bool (m.fr == n.fr)) (w' := w8) rfl rfl rfl rfl (by simp [go_sem, sEv, sLook, nbeq, i64_w, -List.getD_eq_getElem?_getD]) ?_
    refine rw_val (v := .bool (m.fr == n.fr)) (w' := w8) rfl rfl rfl rfl (by first | (simp [go_sem, sEv, sLook, nbeq, i64_w, -List.getD_eq_getElem?_getD, cK]; done) | (rw [cK]; simp [go_sem, sEv, sLook, nbeq, i64_w, -List.getD_eq_getElem?_getD]; done) | (simp [go_sem, sEv, sLook, nbeq, i64_w, -List.getD_eq_getElem?_getD] <;> omega) | (simp [go_sem, sEv, sLook, nbeq, i64_w, -List.getD_eq_getElem?_getD]; intro h_; exact absurd (by omega) h_)) ?_
    refine rw_val (v := .bool (m.fr == n.fr)) (w' := w8) rfl rfl rfl rfl rfl ?_
    rcases bcase (m.fr == n.fr) with cF | cF
    · have l15 : ¬ m.fr = n.fr := by simpa using cF
      refine rw_off (c := (m.fr == n.fr)) rfl rfl rfl (by first | (rw [cF]; rfl) | simp [cF]) rfl rfl ?_
      refine rw_off (c := (m.fr == n.fr)) rfl rfl rfl (by first | (rw [cF]; rfl) | simp [cF]) rfl rfl ?_
      refine rw_off (c := (m.fr == n.fr)) rfl rfl rfl (by first | (rw [cF]; rfl) | simp [cF]) rfl rfl ?_
      refine rw_off (c := (m.fr == n.fr)) rfl rfl rfl (by first | (rw [cF]; rfl) | simp [cF]) rfl rfl ?_
      refine rw_off (c := (m.fr == n.fr)) rfl rfl rfl (by first | (rw [cF]; rfl) | simp [cF]) rfl rfl ?_
      refine rw_val (v := .bool false) (w' := w8) rfl rfl rfl rfl (by first | (simp [go_sem, sEv, sLook, nbeq, i64_w, -List.getD_eq_getElem?_getD, cF]; done) | (rw [cF]; simp [go_sem, sEv, sLook, nbeq, i64_w, -List.getD_eq_getElem?_getD]; done) | (simp [go_sem, sEv, sLook, nbeq, i64_w, -List.getD_eq_getElem?_getD] <;> omega) | (simp [go_sem, sEv, sLook, nbeq, i64_w, -List.getD_eq_getElem?_getD]; intro h_; exact absurd (by omega) h_)) ?_
      refine rw_val (v := .bool false) (w' := w8) rfl rfl rfl rfl rfl ?_
      refine rw_off (c := false) rfl rfl rfl rfl rfl rfl ?_
      refine rw_off (c := false) rfl rfl rfl rfl rfl rfl ?_
      refine rw_off (c := false) rfl rfl rfl rfl rfl rfl ?_
      refine rw_off (c := false) rfl rfl rfl rfl rfl rfl ?_
      refine rw_off (c := false) rfl rfl rfl rfl rfl rfl ?_
      refine rw_val (v := .bool false) (w' := w8) rfl rfl rfl rfl (by simp [go_sem, sEv, sLook, nbeq, i64_w, -List.getD_eq_getElem?_getD]) ?_
      refine rw_val (v := .bool false) (w' := w8) rfl rfl rfl rfl rfl ?_
      refine rw_off (c := false) rfl rfl rfl rfl rfl rfl ?_
      refine rw_off (c := false) rfl rfl rfl rfl rfl rfl ?_
      refine rw_off (c := false) rfl rfl rfl rfl rfl rfl ?_
      refine rw_off (c := false) rfl rfl rfl rfl rfl rfl ?_
      refine rw_off (c := false) rfl rfl rfl rfl rfl rfl ?_
      refine rw_val (v := .bool false) (w' := w8) rfl rfl rfl rfl (by simp [go_sem, sEv, sLook, nbeq, i64_w, -List.getD_eq_getElem?_getD]) ?_
      refine rw_val (v := .bool false) (w' := w8) rfl rfl rfl rfl rfl ?_
      refine rw_off (c := false) rfl rfl rfl rfl rfl rfl ?_
      refine rw_off (c := false) rfl rfl rfl rfl rfl rfl ?_
      refine rw_off (c := false) rfl rfl rfl rfl rfl rfl ?_
      refine rw_off (c := false) rfl rfl rfl rfl rfl rfl ?_
      refine rw_off (c := false) rfl rfl rfl rfl rfl rfl ?_
      refine rw_val (v := .bool false) (w' := w8) rfl rfl rfl rfl (by simp [go_sem, sEv, sLook, nbeq, i64_w, -List.getD_eq_getElem?_getD]) ?_
      refine rw_val (v := .bool false) (w' := w8) rfl rfl rfl rfl rfl ?_
      refine rw_end ?_
      refine w_weaken (G' := [(4, .bool false)]) ⟨rfl, trivial⟩ ?_
      refine w_ret (post_ret1 rfl rfl ?_)
      refine ⟨_, rfl, ?_, (chain hb3 hb9)⟩
      rw [same_iff]
      first | (simp_all; done) | (refine no_iff (fun h_ => ?_); obtain ⟨⟨q1, q2, q3⟩, q4, q5, q6⟩ := h_; first | omega | (simp_all; done))
    · have l16 : m.fr = n.fr := by simpa using cF
      refine rw_on (c := (m.fr == n.fr)) rfl rfl rfl (by first | (rw [cF]; rfl) | simp [cF]) ?_
      refine rw_val (v := .pointer (some ⟨g1, 2, none⟩)) (w' := w8) rfl rfl rfl rfl (by simp [go_sem, sEv, sLook, nbeq, i64_w, -List.getD_eq_getElem?_getD, Try.underlying26]) ?_
      refine rw_on (c := (m.fr == n.fr)) rfl rfl rfl (by first | (rw [cF]; rfl) | simp [cF]) ?_
      refine rw_val (v := .int .i64 m.tw) (w' := w8) rfl rfl rfl rfl (by have eb_ := (hk4.on hb9); have e0_ := eb_.cellv (i := 2) (v := (.int .i64 m.tw : Value)) rfl; simp [go_sem, sEv, sLook, nbeq, i64_w, -List.getD_eq_getElem?_getD, e0_]) ?_
      refine rw_on (c := (m.fr == n.fr)) rfl rfl rfl (by first | (rw [cF]; rfl) | simp [cF]) ?_
      refine rw_val (v := .pointer (some ⟨g7, 2, none⟩)) (w' := w8) rfl rfl rfl rfl (by simp [go_sem, sEv, sLook, nbeq, i64_w, -List.getD_eq_getElem?_getD, Try.underlying26]) ?_
      refine rw_on (c := (m.fr == n.fr)) rfl rfl rfl (by first | (rw [cF]; rfl) | simp [cF]) ?_
      refine rw_val (v := .int .i64 n.tw) (w' := w8) rfl rfl rfl rfl (by have eb_ := hk10; have e0_ := eb_.cellv (i := 2) (v := (.int .i64 n.tw : Value)) rfl; simp [go_sem, sEv, sLook, nbeq, i64_w, -List.getD_eq_getElem?_getD, e0_]) ?_
      refine rw_on (c := (m.fr == n.fr)) rfl rfl rfl (by first | (rw [cF]; rfl) | simp [cF]) ?_
      refine rw_val (v := .bool (m.tw == n.tw)) (w' := w8) rfl rfl rfl rfl (by simp [go_sem, sEv, sLook, nbeq, i64_w, -List.getD_eq_getElem?_getD]) ?_
      refine rw_val (v := .bool (m.tw == n.tw)) (w' := w8) rfl rfl rfl rfl (by first | (simp [go_sem, sEv, sLook, nbeq, i64_w, -List.getD_eq_getElem?_getD, cF]; done) | (rw [cF]; simp [go_sem, sEv, sLook, nbeq, i64_w, -List.getD_eq_getElem?_getD]; done) | (simp [go_sem, sEv, sLook, nbeq, i64_w, -List.getD_eq_getElem?_getD] <;> omega) | (simp [go_sem, sEv, sLook, nbeq, i64_w, -List.getD_eq_getElem?_getD]; intro h_; exact absurd (by omega) h_)) ?_
      refine rw_val (v := .bool (m.tw == n.tw)) (w' := w8) rfl rfl rfl rfl rfl ?_
      rcases bcase (m.tw == n.tw) with cT | cT
      · have l17 : ¬ m.tw = n.tw := by simpa using cT
        refine rw_off (c := (m.tw == n.tw)) rfl rfl rfl (by first | (rw [cT]; rfl) | simp [cT]) rfl rfl ?_
        refine rw_off (c := (m.tw == n.tw)) rfl rfl rfl (by first | (rw [cT]; rfl) | simp [cT]) rfl rfl ?_
        refine rw_off (c := (m.tw == n.tw)) rfl rfl rfl (by first | (rw [cT]; rfl) | simp [cT]) rfl rfl ?_
        refine rw_off (c := (m.tw == n.tw)) rfl rfl rfl (by first | (rw [cT]; rfl) | simp [cT]) rfl rfl ?_
        refine rw_off (c := (m.tw == n.tw)) rfl rfl rfl (by first | (rw [cT]; rfl) | simp [cT]) rfl rfl ?_
        refine rw_val (v := .bool false) (w' := w8) rfl rfl rfl rfl (by first | (simp [go_sem, sEv, sLook, nbeq, i64_w, -List.getD_eq_getElem?_getD, cT]; done) | (rw [cT]; simp [go_sem, sEv, sLook, nbeq, i64_w, -List.getD_eq_getElem?_getD]; done) | (simp [go_sem, sEv, sLook, nbeq, i64_w, -List.getD_eq_getElem?_getD] <;> omega) | (simp [go_sem, sEv, sLook, nbeq, i64_w, -List.getD_eq_getElem?_getD]; intro h_; exact absurd (by omega) h_)) ?_
        refine rw_val (v := .bool false) (w' := w8) rfl rfl rfl rfl rfl ?_
        refine rw_off (c := false) rfl rfl rfl rfl rfl rfl ?_
        refine rw_off (c := false) rfl rfl rfl rfl rfl rfl ?_
        refine rw_off (c := false) rfl rfl rfl rfl rfl rfl ?_
        refine rw_off (c := false) rfl rfl rfl rfl rfl rfl ?_
        refine rw_off (c := false) rfl rfl rfl rfl rfl rfl ?_
        refine rw_val (v := .bool false) (w' := w8) rfl rfl rfl rfl (by simp [go_sem, sEv, sLook, nbeq, i64_w, -List.getD_eq_getElem?_getD]) ?_
        refine rw_val (v := .bool false) (w' := w8) rfl rfl rfl rfl rfl ?_
        refine rw_off (c := false) rfl rfl rfl rfl rfl rfl ?_
        refine rw_off (c := false) rfl rfl rfl rfl rfl rfl ?_
        refine rw_off (c := false) rfl rfl rfl rfl rfl rfl ?_
        refine rw_off (c := false) rfl rfl rfl rfl rfl rfl ?_
        refine rw_off (c := false) rfl rfl rfl rfl rfl rfl ?_
        refine rw_val (v := .bool false) (w' := w8) rfl rfl rfl rfl (by simp [go_sem, sEv, sLook, nbeq, i64_w, -List.getD_eq_getElem?_getD]) ?_
        refine rw_val (v := .bool false) (w' := w8) rfl rfl rfl rfl rfl ?_
        refine rw_end ?_
        refine w_weaken (G' := [(4, .bool false)]) ⟨rfl, trivial⟩ ?_
        refine w_ret (post_ret1 rfl rfl ?_)
        refine ⟨_, rfl, ?_, (chain hb3 hb9)⟩
        rw [same_iff]
        first | (simp_all; done) | (refine no_iff (fun h_ => ?_); obtain ⟨⟨q1, q2, q3⟩, q4, q5, q6⟩ := h_; first | omega | (simp_all; done))
      · have l18 : m.tw = n.tw := by simpa using cT
        refine rw_on (c := (m.tw == n.tw)) rfl rfl rfl (by first | (rw [cT]; rfl) | simp [cT]) ?_
        refine rw_val (v := .pointer (some ⟨g1, 3, none⟩)) (w' := w8) rfl rfl rfl rfl (by simp [go_sem, sEv, sLook, nbeq, i64_w, -List.getD_eq_getElem?_getD, Try.underlying26]) ?_
        refine rw_on (c := (m.tw == n.tw)) rfl rfl rfl (by first | (rw [cT]; rfl) | simp [cT]) ?_
        refine rw_val (v := .slice A3 m.nums.length c3) (w' := w8) rfl rfl rfl rfl (by have eb_ := (hk4.on hb9); have e0_ := eb_.cellv (i := 3) (v := (.slice A3 m.nums.length c3 : Value)) rfl; simp [go_sem, sEv, sLook, nbeq, i64_w, -List.getD_eq_getElem?_getD, e0_, Try.underlying22]) ?_
        refine rw_on (c := (m.tw == n.tw)) rfl rfl rfl (by first | (rw [cT]; rfl) | simp [cT]) ?_
        refine rw_val (v := .pointer (some ⟨g7, 3, none⟩)) (w' := w8) rfl rfl rfl rfl (by simp [go_sem, sEv, sLook, nbeq, i64_w, -List.getD_eq_getElem?_getD, Try.underlying26]) ?_
        refine rw_on (c := (m.tw == n.tw)) rfl rfl rfl (by first | (rw [cT]; rfl) | simp [cT]) ?_
        refine rw_val (v := .slice A6 n.nums.length c6) (w' := w8) rfl rfl rfl rfl (by have eb_ := hk10; have e0_ := eb_.cellv (i := 3) (v := (.slice A6 n.nums.length c6 : Value)) rfl; simp [go_sem, sEv, sLook, nbeq, i64_w, -List.getD_eq_getElem?_getD, e0_, Try.underlying22]) ?_
        refine rw_on (c := (m.tw == n.tw)) rfl rfl rfl (by first | (rw [cT]; rfl) | simp [cT]) ?_
        refine rw_call rfl rfl rfl rfl (f := 43) (args := #[.slice A3 m.nums.length c3, .slice A6 n.nums.length c6]) (by simp [go_sem, sEv, sLook, nbeq, i64_w, -List.getD_eq_getElem?_getD]) (equal_int w8 A3 c3 A6 c6 m.nums n.nums (Kd.C_below hn3 (chain hb3 hb9)) hc3 (Kd.C_below hn6 (chain hb3 hb9)) hc6 (by first | assumption | omega) (by first | assumption | omega)) ?_
        rintro e_ w21 ⟨b19, rfl, hi_int, hb22⟩
        refine ⟨_, rfl, ?_⟩
        have hs_w21 := hb22.size
        refine rw_val (v := .bool b19) (w' := w21) rfl rfl rfl rfl (by first | (simp [go_sem, sEv, sLook, nbeq, i64_w, -List.getD_eq_getElem?_getD, cT]; done) | (rw [cT]; simp [go_sem, sEv, sLook, nbeq, i64_w, -List.getD_eq_getElem?_getD]; done) | (simp [go_sem, sEv, sLook, nbeq, i64_w, -List.getD_eq_getElem?_getD] <;> omega) | (simp [go_sem, sEv, sLook, nbeq, i64_w, -List.getD_eq_getElem?_getD]; intro h_; exact absurd (by omega) h_)) ?_
        refine rw_val (v := .bool b19) (w' := w21) rfl rfl rfl rfl rfl ?_
        rcases bcase b19 with c23 | c23
        · refine rw_off (c := b19) rfl rfl rfl (by first | (rw [c23]; rfl) | simp [c23]) rfl rfl ?_
          refine rw_off (c := b19) rfl rfl rfl (by first | (rw [c23]; rfl) | simp [c23]) rfl rfl ?_
          refine rw_off (c := b19) rfl rfl rfl (by first | (rw [c23]; rfl) | simp [c23]) rfl rfl ?_
          refine rw_off (c := b19) rfl rfl rfl (by first | (rw [c23]; rfl) | simp [c23]) rfl rfl ?_
          refine rw_off (c := b19) rfl rfl rfl (by first | (rw [c23]; rfl) | simp [c23]) rfl rfl ?_
          refine rw_val (v := .bool false) (w' := w21) rfl rfl rfl rfl (by first | (simp [go_sem, sEv, sLook, nbeq, i64_w, -List.getD_eq_getElem?_getD, c23]; done) | (rw [c23]; simp [go_sem, sEv, sLook, nbeq, i64_w, -List.getD_eq_getElem?_getD]; done) | (simp [go_sem, sEv, sLook, nbeq, i64_w, -List.getD_eq_getElem?_getD] <;> omega) | (simp [go_sem, sEv, sLook, nbeq, i64_w, -List.getD_eq_getElem?_getD]; intro h_; exact absurd (by omega) h_)) ?_
          refine rw_val (v := .bool false) (w' := w21) rfl rfl rfl rfl rfl ?_
          refine rw_off (c := false) rfl rfl rfl rfl rfl rfl ?_
          refine rw_off (c := false) rfl rfl rfl rfl rfl rfl ?_
          refine rw_off (c := false) rfl rfl rfl rfl rfl rfl ?_
          refine rw_off (c := false) rfl rfl rfl rfl rfl rfl ?_
          refine rw_off (c := false) rfl rfl rfl rfl rfl rfl ?_
          refine rw_val (v := .bool false) (w' := w21) rfl rfl rfl rfl (by simp [go_sem, sEv, sLook, nbeq, i64_w, -List.getD_eq_getElem?_getD]) ?_
          refine rw_val (v := .bool false) (w' := w21) rfl rfl rfl rfl rfl ?_
          refine rw_end ?_
          refine w_weaken (G' := [(4, .bool false)]) ⟨rfl, trivial⟩ ?_
          refine w_ret (post_ret1 rfl rfl ?_)
          refine ⟨_, rfl, ?_, (chain (chain hb3 hb9) hb22)⟩
          rw [same_iff]
          first | (simp_all; done) | (refine no_iff (fun h_ => ?_); obtain ⟨⟨q1, q2, q3⟩, q4, q5, q6⟩ := h_; first | omega | (simp_all; done))
        · refine rw_on (c := b19) rfl rfl rfl (by first | (rw [c23]; rfl) | simp [c23]) ?_
          refine rw_val (v := .pointer (some ⟨g1, 4, none⟩)) (w' := w21) rfl rfl rfl rfl (by simp [go_sem, sEv, sLook, nbeq, i64_w, -List.getD_eq_getElem?_getD, Try.underlying26]) ?_
          refine rw_on (c := b19) rfl rfl rfl (by first | (rw [c23]; rfl) | simp [c23]) ?_
          refine rw_val (v := .slice A4 m.ops.length c4) (w' := w21) rfl rfl rfl rfl (by have eb_ := ((hk4.on hb9).on hb22); have e0_ := eb_.cellv (i := 4) (v := (.slice A4 m.ops.length c4 : Value)) rfl; simp [go_sem, sEv, sLook, nbeq, i64_w, -List.getD_eq_getElem?_getD, e0_, Try.underlying23]) ?_
          refine rw_on (c := b19) rfl rfl rfl (by first | (rw [c23]; rfl) | simp [c23]) ?_
          refine rw_val (v := .pointer (some ⟨g7, 4, none⟩)) (w' := w21) rfl rfl rfl rfl (by simp [go_sem, sEv, sLook, nbeq, i64_w, -List.getD_eq_getElem?_getD, Try.underlying26]) ?_
          refine rw_on (c := b19) rfl rfl rfl (by first | (rw [c23]; rfl) | simp [c23]) ?_
          refine rw_val (v := .slice A7 n.ops.length c7) (w' := w21) rfl rfl rfl rfl (by have eb_ := (hk10.on hb22); have e0_ := eb_.cellv (i := 4) (v := (.slice A7 n.ops.length c7 : Value)) rfl; simp [go_sem, sEv, sLook, nbeq, i64_w, -List.getD_eq_getElem?_getD, e0_, Try.underlying23]) ?_
          refine rw_on (c := b19) rfl rfl rfl (by first | (rw [c23]; rfl) | simp [c23]) ?_
          refine rw_call rfl rfl rfl rfl (f := 44) (args := #[.slice A4 m.ops.length c4, .slice A7 n.ops.length c7]) (by simp [go_sem, sEv, sLook, nbeq, i64_w, -List.getD_eq_getElem?_getD]) (equal_op w21 A4 c4 A7 c7 m.ops n.ops (Kd.C_below hn4 (chain (chain hb3 hb9) hb22)) hc4 (Kd.C_below hn7 (chain (chain hb3 hb9) hb22)) hc7 (by first | assumption | omega) (by first | assumption | omega)) ?_
          rintro e_ w26 ⟨b24, rfl, hi_op, hb27⟩
          refine ⟨_, rfl, ?_⟩
          have hs_w26 := hb27.size
          refine rw_val (v := .bool b24) (w' := w26) rfl rfl rfl rfl (by first | (simp [go_sem, sEv, sLook, nbeq, i64_w, -List.getD_eq_getElem?_getD, c23]; done) | (rw [c23]; simp [go_sem, sEv, sLook, nbeq, i64_w, -List.getD_eq_getElem?_getD]; done) | (simp [go_sem, sEv, sLook, nbeq, i64_w, -List.getD_eq_getElem?_getD] <;> omega) | (simp [go_sem, sEv, sLook, nbeq, i64_w, -List.getD_eq_getElem?_getD]; intro h_; exact absurd (by omega) h_)) ?_
          refine rw_val (v := .bool b24) (w' := w26) rfl rfl rfl rfl rfl ?_
          rcases bcase b24 with c28 | c28
          · refine rw_off (c := b24) rfl rfl rfl (by first | (rw [c28]; rfl) | simp [c28]) rfl rfl ?_
            refine rw_off (c := b24) rfl rfl rfl (by first | (rw [c28]; rfl) | simp [c28]) rfl rfl ?_
            refine rw_off (c := b24) rfl rfl rfl (by first | (rw [c28]; rfl) | simp [c28]) rfl rfl ?_
            refine rw_off (c := b24) rfl rfl rfl (by first | (rw [c28]; rfl) | simp [c28]) rfl rfl ?_
            refine rw_off (c := b24) rfl rfl rfl (by first | (rw [c28]; rfl) | simp [c28]) rfl rfl ?_
            refine rw_val (v := .bool false) (w' := w26) rfl rfl rfl rfl (by first | (simp [go_sem, sEv, sLook, nbeq, i64_w, -List.getD_eq_getElem?_getD, c28]; done) | (rw [c28]; simp [go_sem, sEv, sLook, nbeq, i64_w, -List.getD_eq_getElem?_getD]; done) | (simp [go_sem, sEv, sLook, nbeq, i64_w, -List.getD_eq_getElem?_getD] <;> omega) | (simp [go_sem, sEv, sLook, nbeq, i64_w, -List.getD_eq_getElem?_getD]; intro h_; exact absurd (by omega) h_)) ?_
            refine rw_val (v := .bool false) (w' := w26) rfl rfl rfl rfl rfl ?_
            refine rw_end ?_
            refine w_weaken (G' := [(4, .bool false)]) ⟨rfl, trivial⟩ ?_
            refine w_ret (post_ret1 rfl rfl ?_)
            refine ⟨_, rfl, ?_, (chain (chain (chain hb3 hb9) hb22) hb27)⟩
            rw [same_iff]
            first | (simp_all; done) | (refine no_iff (fun h_ => ?_); obtain ⟨⟨q1, q2, q3⟩, q4, q5, q6⟩ := h_; first | omega | (simp_all; done))
          · refine rw_on (c := b24) rfl rfl rfl (by first | (rw [c28]; rfl) | simp [c28]) ?_
            refine rw_val (v := .pointer (some ⟨g1, 5, none⟩)) (w' := w26) rfl rfl rfl rfl (by simp [go_sem, sEv, sLook, nbeq, i64_w, -List.getD_eq_getElem?_getD, Try.underlying26]) ?_
            refine rw_on (c := b24) rfl rfl rfl (by first | (rw [c28]; rfl) | simp [c28]) ?_
            refine rw_val (v := .slice A5 m.ents.length c5) (w' := w26) rfl rfl rfl rfl (by have eb_ := (((hk4.on hb9).on hb22).on hb27); have e0_ := eb_.cellv (i := 5) (v := (.slice A5 m.ents.length c5 : Value)) rfl; simp [go_sem, sEv, sLook, nbeq, i64_w, -List.getD_eq_getElem?_getD, e0_, Try.underlying24]) ?_
            refine rw_on (c := b24) rfl rfl rfl (by first | (rw [c28]; rfl) | simp [c28]) ?_
            refine rw_val (v := .pointer (some ⟨g7, 5, none⟩)) (w' := w26) rfl rfl rfl rfl (by simp [go_sem, sEv, sLook, nbeq, i64_w, -List.getD_eq_getElem?_getD, Try.underlying26]) ?_
            refine rw_on (c := b24) rfl rfl rfl (by first | (rw [c28]; rfl) | simp [c28]) ?_
            refine rw_val (v := .slice A8 n.ents.length c8) (w' := w26) rfl rfl rfl rfl (by have eb_ := ((hk10.on hb22).on hb27); have e0_ := eb_.cellv (i := 5) (v := (.slice A8 n.ents.length c8 : Value)) rfl; simp [go_sem, sEv, sLook, nbeq, i64_w, -List.getD_eq_getElem?_getD, e0_, Try.underlying24]) ?_
            refine rw_on (c := b24) rfl rfl rfl (by first | (rw [c28]; rfl) | simp [c28]) ?_
            refine rw_call rfl rfl rfl rfl (f := 45) (args := #[.slice A5 m.ents.length c5, .slice A8 n.ents.length c8]) (by simp [go_sem, sEv, sLook, nbeq, i64_w, -List.getD_eq_getElem?_getD]) (equal_ent w26 A5 c5 A8 c8 m.ents n.ents (Kd.C_below hn5 (chain (chain (chain hb3 hb9) hb22) hb27)) hc5 (Kd.C_below hn8 (chain (chain (chain hb3 hb9) hb22) hb27)) hc8 (by first | assumption | omega) (by first | assumption | omega)) ?_
            rintro e_ w31 ⟨b29, rfl, hi_ent, hb32⟩
            refine ⟨_, rfl, ?_⟩
            have hs_w31 := hb32.size
            refine rw_val (v := .bool b29) (w' := w31) rfl rfl rfl rfl (by first | (simp [go_sem, sEv, sLook, nbeq, i64_w, -List.getD_eq_getElem?_getD, c28]; done) | (rw [c28]; simp [go_sem, sEv, sLook, nbeq, i64_w, -List.getD_eq_getElem?_getD]; done) | (simp [go_sem, sEv, sLook, nbeq, i64_w, -List.getD_eq_getElem?_getD] <;> omega) | (simp [go_sem, sEv, sLook, nbeq, i64_w, -List.getD_eq_getElem?_getD]; intro h_; exact absurd (by omega) h_)) ?_
            refine rw_val (v := .bool b29) (w' := w31) rfl rfl rfl rfl rfl ?_
            refine rw_end ?_
            refine w_weaken (G' := [(4, .bool b29)]) ⟨rfl, trivial⟩ ?_
            refine w_ret (post_ret1 rfl rfl ?_)
            refine ⟨_, rfl, ?_, (chain (chain (chain (chain hb3 hb9) hb22) hb27) hb32)⟩
            rw [same_iff]
            first | (simp_all; done) | (refine no_iff (fun h_ => ?_); obtain ⟨⟨q1, q2, q3⟩, q4, q5, q6⟩ := h_; first | omega | (simp_all; done))
set_option maxHeartbeats 4000000 in
theorem large_calls (w : World) (n : NT) (A3 : Option Addr) (c3 : Nat) (A4 : Option Addr) (c4 : Nat) (A5 : Option Addr) (c5 : Nat) (hn3 : (Kd.int .i64).C w A3 n.nums.length n.nums) (hc3 : n.nums.length ≤ c3) (hn4 : kOp.C w A4 n.ops.length n.ops) (hc4 : n.ops.length ≤ c4) (hn5 : kEntry.C w A5 n.ents.length n.ents) (hc5 : n.ents.length ≤ c5) (hk3 : n.nums.length ≤ 140737488355328) (hk4 : n.ops.length ≤ 140737488355328) (hk5 : n.ents.length ≤ 140737488355328) :
    Calls Try.prog 10 #[.agg #[.int .i64 n.kind, .int .i64 n.fr, .int .i64 n.tw, .slice A3 n.nums.length c3, .slice A4 n.ops.length c4, .slice A5 n.ents.length c5]] w fun e w' => e = .returned (.bool (decide (500 < n.nums.length + n.ops.length + n.ents.length))) ∧ Below w.heap.size w w' := by
  refine calls_flow Try.func10 rfl 15 rfl (Nat.le_of_ble_eq_true rfl) [(0, .agg #[.int .i64 n.kind, .int .i64 n.fr, .int .i64 n.tw, .slice A3 n.nums.length c3, .slice A4 n.ops.length c4, .slice A5 n.ents.length c5])] ?_ ?_
  · intro t v h; exact args_look rfl t v h
  refine w_seq ?_
  refine w_region ?_
  refine rw_new (cs := #[.int .i64 n.kind, .int .i64 n.fr, .int .i64 n.tw, .slice A3 n.nums.length c3, .slice A4 n.ops.length c4, .slice A5 n.ents.length c5]) (t := 26) (fun g => .pointer (some ⟨g, 0, none⟩)) rfl rfl rfl rfl (by simp [go_sem, sEv, sLook, nbeq, i64_w, -List.getD_eq_getElem?_getD]) ?_
  intro g1 w2 hg6 hz5 hb3 hk4
  have hs_w2 := hb3.size
  refine rw_val (v := .bool false) (w' := w2) rfl rfl rfl rfl rfl ?_
  refine rw_end ?_
  refine w_seq ?_
  refine w_region ?_
  refine rw_val (v := .pointer (some ⟨g1, 3, none⟩)) (w' := w2) rfl rfl rfl rfl (by simp [go_sem, sEv, sLook, nbeq, i64_w, -List.getD_eq_getElem?_getD, Try.underlying26]) ?_
  refine rw_val (v := .slice A3 n.nums.length c3) (w' := w2) rfl rfl rfl rfl (by have eb_ := hk4; have e0_ := eb_.cellv (i := 3) (v := (.slice A3 n.nums.length c3 : Value)) rfl; simp [go_sem, sEv, sLook, nbeq, i64_w, -List.getD_eq_getElem?_getD, e0_, Try.underlying22]) ?_
  refine rw_val (v := .int .i64 ((n.nums.length : Nat) : Int)) (w' := w2) rfl rfl rfl rfl (by simp [go_sem, sEv, sLook, nbeq, i64_w, -List.getD_eq_getElem?_getD]) ?_
  refine rw_val (v := .pointer (some ⟨g1, 4, none⟩)) (w' := w2) rfl rfl rfl rfl (by simp [go_sem, sEv, sLook, nbeq, i64_w, -List.getD_eq_getElem?_getD, Try.underlying26]) ?_
  refine rw_val (v := .slice A4 n.ops.length c4) (w' := w2) rfl rfl rfl rfl (by have eb_ := hk4; have e0_ := eb_.cellv (i := 4) (v := (.slice A4 n.ops.length c4 : Value)) rfl; simp [go_sem, sEv, sLook, nbeq, i64_w, -List.getD_eq_getElem?_getD, e0_, Try.underlying23]) ?_
  refine rw_val (v := .int .i64 ((n.ops.length : Nat) : Int)) (w' := w2) rfl rfl rfl rfl (by simp [go_sem, sEv, sLook, nbeq, i64_w, -List.getD_eq_getElem?_getD]) ?_
  refine rw_val (v := .int .i64 ((n.nums.length + n.ops.length : Nat) : Int)) (w' := w2) rfl rfl rfl rfl (by simp [go_sem, sEv, sLook, nbeq, i64_w, -List.getD_eq_getElem?_getD]; exact wrap_id (by omega) (by omega)) ?_
  refine rw_val (v := .pointer (some ⟨g1, 5, none⟩)) (w' := w2) rfl rfl rfl rfl (by simp [go_sem, sEv, sLook, nbeq, i64_w, -List.getD_eq_getElem?_getD, Try.underlying26]) ?_
  refine rw_val (v := .slice A5 n.ents.length c5) (w' := w2) rfl rfl rfl rfl (by have eb_ := hk4; have e0_ := eb_.cellv (i := 5) (v := (.slice A5 n.ents.length c5 : Value)) rfl; simp [go_sem, sEv, sLook, nbeq, i64_w, -List.getD_eq_getElem?_getD, e0_, Try.underlying24]) ?_
  refine rw_val (v := .int .i64 ((n.ents.length : Nat) : Int)) (w' := w2) rfl rfl rfl rfl (by simp [go_sem, sEv, sLook, nbeq, i64_w, -List.getD_eq_getElem?_getD]) ?_
  refine rw_val (v := .int .i64 ((n.nums.length + n.ops.length + n.ents.length : Nat) : Int)) (w' := w2) rfl rfl rfl rfl (by simp [go_sem, sEv, sLook, nbeq, i64_w, -List.getD_eq_getElem?_getD]; exact wrap_id (by omega) (by omega)) ?_
  refine rw_val (v := .bool (decide (500 < ((n.nums.length + n.ops.length + n.ents.length : Nat) : Int)))) (w' := w2) rfl rfl rfl rfl (by simp [go_sem, sEv, sLook, nbeq, i64_w, -List.getD_eq_getElem?_getD]) ?_
  refine rw_val (v := .bool (decide (500 < ((n.nums.length + n.ops.length + n.ents.length : Nat) : Int)))) (w' := w2) rfl rfl rfl rfl rfl ?_
  refine rw_end ?_
  refine w_weaken (G' := [(2, .bool (decide (500 < ((n.nums.length + n.ops.length + n.ents.length : Nat) : Int))))]) ⟨rfl, trivial⟩ ?_
  refine w_ret (post_ret1 rfl rfl ?_)
  exact ⟨by rw [show (decide (500 < ((n.nums.length + n.ops.length + n.ents.length : Nat) : Int))) = (decide (500 < n.nums.length + n.ops.length + n.ents.length)) by rw [Bool.eq_iff_iff, decide_eq_true_eq, decide_eq_true_eq]; omega], hb3⟩
end Go.Proofs.Ytbbhdohjhipalaa.Ce
end
section
namespace Go.Proofs.Ytbbhdohjhipalaa.Ce
open Go.RowKit Go.Proofs.YtbbhdohjhipalaaW.PrintWords Go.Proofs.YtbbhdohjhipalaaW.PrintLast Go.Proofs.YtbbhdohjhipalaaW.PrintMore
open Go.Proofs.Ytbbhdohjhipalaa.Flow
set_option linter.unusedVariables false
set_option linter.unusedSimpArgs false
set_option maxHeartbeats 4000000 in
theorem rsame_calls (w : World) (m n : NT) (A3 : Option Addr) (c3 : Nat) (A4 : Option Addr) (c4 : Nat) (A5 : Option Addr) (c5 : Nat) (hn3 : (Kd.int .i64).C w A3 m.nums.length m.nums) (hc3 : m.nums.length ≤ c3) (hk3 : m.nums.length ≤ 140737488355328) (hn4 : kOp.C w A4 m.ops.length m.ops) (hc4 : m.ops.length ≤ c4) (hk4 : m.ops.length ≤ 140737488355328) (hn5 : kEntry.C w A5 m.ents.length m.ents) (hc5 : m.ents.length ≤ c5) (hk5 : m.ents.length ≤ 140737488355328) (A6 : Option Addr) (c6 : Nat) (A7 : Option Addr) (c7 : Nat) (A8 : Option Addr) (c8 : Nat) (hn6 : (Kd.int .i64).C w A6 n.nums.length n.nums) (hc6 : n.nums.length ≤ c6) (hk6 : n.nums.length ≤ 140737488355328) (hn7 : kOp.C w A7 n.ops.length n.ops) (hc7 : n.ops.length ≤ c7) (hk7 : n.ops.length ≤ 140737488355328) (hn8 : kEntry.C w A8 n.ents.length n.ents) (hc8 : n.ents.length ≤ c8) (hk8 : n.ents.length ≤ 140737488355328) :
    Calls Try.prog 17 #[.agg #[.int .i64 m.kind, .int .i64 m.fr, .int .i64 m.tw, .slice A3 m.nums.length c3, .slice A4 m.ops.length c4, .slice A5 m.ents.length c5], .agg #[.int .i64 n.kind, .int .i64 n.fr, .int .i64 n.tw, .slice A6 n.nums.length c6, .slice A7 n.ops.length c7, .slice A8 n.ents.length c8]] w fun e w' => ∃ bb, e = .returned (.bool bb) ∧ (bb = true ↔ m = n) ∧ Below w.heap.size w w' := by
  refine calls_flow Try.func17 rfl 108 rfl (Nat.le_of_ble_eq_true rfl) [(0, .agg #[.int .i64 m.kind, .int .i64 m.fr, .int .i64 m.tw, .slice A3 m.nums.length c3, .slice A4 m.ops.length c4, .slice A5 m.ents.length c5]), (1, .agg #[.int .i64 n.kind, .int .i64 n.fr, .int .i64 n.tw, .slice A6 n.nums.length c6, .slice A7 n.ops.length c7, .slice A8 n.ents.length c8])] ?_ ?_
  · intro t v h; exact args_look rfl t v h
  refine w_seq ?_
  refine w_region ?_
  refine rw_new (cs := #[.int .i64 m.kind, .int .i64 m.fr, .int .i64 m.tw, .slice A3 m.nums.length c3, .slice A4 m.ops.length c4, .slice A5 m.ents.length c5]) (t := 26) (fun g => .pointer (some ⟨g, 0, none⟩)) rfl rfl rfl rfl (by simp [go_sem, sEv, sLook, nbeq, i64_w, -List.getD_eq_getElem?_getD]) ?_
  intro g1 w2 hg6 hz5 hb3 hk4
  have hs_w2 := hb3.size
  refine rw_new (cs := #[.int .i64 n.kind, .int .i64 n.fr, .int .i64 n.tw, .slice A6 n.nums.length c6, .slice A7 n.ops.length c7, .slice A8 n.ents.length c8]) (t := 26) (fun g => .pointer (some ⟨g, 0, none⟩)) rfl rfl rfl rfl (by simp [go_sem, sEv, sLook, nbeq, i64_w, -List.getD_eq_getElem?_getD]) ?_
  intro g7 w8 hg12 hz11 hb9 hk10
  have hs_w8 := hb9.size
  refine rw_val (v := .bool false) (w' := w8) rfl rfl rfl rfl rfl ?_
  refine rw_end ?_
  refine w_seq ?_
  refine w_seq ?_
  refine w_region ?_
  refine rw_val (v := .pointer (some ⟨g1, 0, none⟩)) (w' := w8) rfl rfl rfl rfl (by simp [go_sem, sEv, sLook, nbeq, i64_w, -List.getD_eq_getElem?_getD, Try.underlying26]) ?_
  refine rw_val (v := .int .i64 m.kind) (w' := w8) rfl rfl rfl rfl (by have eb_ := (hk4.on hb9); have e0_ := eb_.cellv (i := 0) (v := (.int .i64 m.kind : Value)) rfl; simp [go_sem, sEv, sLook, nbeq, i64_w, -List.getD_eq_getElem?_getD, e0_]) ?_
  refine rw_val (v := .pointer (some ⟨g7, 0, none⟩)) (w' := w8) rfl rfl rfl rfl (by simp [go_sem, sEv, sLook, nbeq, i64_w, -List.getD_eq_getElem?_getD, Try.underlying26]) ?_
  refine rw_val (v := .int .i64 n.kind) (w' := w8) rfl rfl rfl rfl (by have eb_ := hk10; have e0_ := eb_.cellv (i := 0) (v := (.int .i64 n.kind : Value)) rfl; simp [go_sem, sEv, sLook, nbeq, i64_w, -List.getD_eq_getElem?_getD, e0_]) ?_
  refine rw_val (v := .bool (m.kind != n.kind)) (w' := w8) rfl rfl rfl rfl (by simp [go_sem, sEv, sLook, nbeq, i64_w, -List.getD_eq_getElem?_getD]) ?_
  refine rw_val (v := .bool (m.kind != n.kind)) (w' := w8) rfl rfl rfl rfl rfl ?_
  rcases bcase (m.kind != n.kind) with c13 | c13
  · have l14 : m.kind = n.kind := by simpa using c13
    refine rw_on (c := (m.kind != n.kind)) rfl rfl rfl (by first | (rw [c13]; rfl) | simp [c13]) ?_
    refine rw_val (v := .pointer (some ⟨g1, 1, none⟩)) (w' := w8) rfl rfl rfl rfl (by simp [go_sem, sEv, sLook, nbeq, i64_w, -List.getD_eq_getElem?_getD, Try.underlying26]) ?_
    refine rw_on (c := (m.kind != n.kind)) rfl rfl rfl (by first | (rw [c13]; rfl) | simp [c13]) ?_
    refine rw_val (v := .int .i64 m.fr) (w' := w8) rfl rfl rfl rfl (by have eb_ := (hk4.on hb9); have e0_ := eb_.cellv (i := 1) (v := (.int .i64 m.fr : Value)) rfl; simp [go_sem, sEv, sLook, nbeq, i64_w, -List.getD_eq_getElem?_getD, e0_]) ?_
    refine rw_on (c := (m.kind != n.kind)) rfl rfl rfl (by first | (rw [c13]; rfl) | simp [c13]) ?_
    refine rw_val (v := .pointer (some ⟨g7, 1, none⟩)) (w' := w8) rfl rfl rfl rfl (by simp [go_sem, sEv, sLook, nbeq, i64_w, -List.getD_eq_getElem?_getD, Try.underlying26]) ?_
    refine rw_on (c := (m.kind != n.kind)) rfl rfl rfl (by first | (rw [c13]; rfl) | simp [c13]) ?_
    refine rw_val (v := .int .i64 n.fr) (w' := w8) rfl rfl rfl rfl (by have eb_ := hk10; have e0_ := eb_.cellv (i := 1) (v := (.int .i64 n.fr : Value)) rfl; simp [go_sem, sEv, sLook, nbeq, i64_w, -List.getD_eq_getElem?_getD, e0_]) ?_
    refine rw_on (c := (m.kind != n.kind)) rfl rfl rfl (by first | (rw [c13]; rfl) | simp [c13]) ?_
    refine rw_val (v := .bool (m.fr != n.fr)) (w' := w8) rfl rfl rfl rfl (by simp [go_sem, sEv, sLook, nbeq, i64_w, -List.getD_eq_getElem?_getD]) ?_
    refine rw_val (v := .bool (m.fr != n.fr)) (w' := w8) rfl rfl rfl rfl (by first | (simp [go_sem, sEv, sLook, nbeq, i64_w, -List.getD_eq_getElem?_getD, c13]; done) | (rw [c13]; simp [go_sem, sEv, sLook, nbeq, i64_w, -List.getD_eq_getElem?_getD]; done) | (simp [go_sem, sEv, sLook, nbeq, i64_w, -List.getD_eq_getElem?_getD] <;> omega) | (simp [go_sem, sEv, sLook, nbeq, i64_w, -List.getD_eq_getElem?_getD]; intro h_; exact absurd (by omega) h_)) ?_
    refine rw_val (v := .bool (m.fr != n.fr)) (w' := w8) rfl rfl rfl rfl rfl ?_
    rcases bcase (m.fr != n.fr) with c15 | c15
    · have l16 : m.fr = n.fr := by simpa using c15
      refine rw_on (c := (m.fr != n.fr)) rfl rfl rfl (by first | (rw [c15]; rfl) | simp [c15]) ?_
      refine rw_val (v := .pointer (some ⟨g1, 2, none⟩)) (w' := w8) rfl rfl rfl rfl (by simp [go_sem, sEv, sLook, nbeq, i64_w, -List.getD_eq_getElem?_getD, Try.underlying26]) ?_
      refine rw_on (c := (m.fr != n.fr)) rfl rfl rfl (by first | (rw [c15]; rfl) | simp [c15]) ?_
      refine rw_val (v := .int .i64 m.tw) (w' := w8) rfl rfl rfl rfl (by have eb_ := (hk4.on hb9); have e0_ := eb_.cellv (i := 2) (v := (.int .i64 m.tw : Value)) rfl; simp [go_sem, sEv, sLook, nbeq, i64_w, -List.getD_eq_getElem?_getD, e0_]) ?_
      refine rw_on (c := (m.fr != n.fr)) rfl rfl rfl (by first | (rw [c15]; rfl) | simp [c15]) ?_
      refine rw_val (v := .pointer (some ⟨g7, 2, none⟩)) (w' := w8) rfl rfl rfl rfl (by simp [go_sem, sEv, sLook, nbeq, i64_w, -List.getD_eq_getElem?_getD, Try.underlying26]) ?_
      refine rw_on (c := (m.fr != n.fr)) rfl rfl rfl (by first | (rw [c15]; rfl) | simp [c15]) ?_
      refine rw_val (v := .int .i64 n.tw) (w' := w8) rfl rfl rfl rfl (by have eb_ := hk10; have e0_ := eb_.cellv (i := 2) (v := (.int .i64 n.tw : Value)) rfl; simp [go_sem, sEv, sLook, nbeq, i64_w, -List.getD_eq_getElem?_getD, e0_]) ?_
      refine rw_on (c := (m.fr != n.fr)) rfl rfl rfl (by first | (rw [c15]; rfl) | simp [c15]) ?_
      refine rw_val (v := .bool (m.tw != n.tw)) (w' := w8) rfl rfl rfl rfl (by simp [go_sem, sEv, sLook, nbeq, i64_w, -List.getD_eq_getElem?_getD]) ?_
      refine rw_val (v := .bool (m.tw != n.tw)) (w' := w8) rfl rfl rfl rfl (by first | (simp [go_sem, sEv, sLook, nbeq, i64_w, -List.getD_eq_getElem?_getD, c15]; done) | (rw [c15]; simp [go_sem, sEv, sLook, nbeq, i64_w, -List.getD_eq_getElem?_getD]; done) | (simp [go_sem, sEv, sLook, nbeq, i64_w, -List.getD_eq_getElem?_getD] <;> omega) | (simp [go_sem, sEv, sLook, nbeq, i64_w, -List.getD_eq_getElem?_getD]; intro h_; exact absurd (by omega) h_)) ?_
      refine rw_val (v := .bool (m.tw != n.tw)) (w' := w8) rfl rfl rfl rfl rfl ?_
      rcases bcase (m.tw != n.tw) with c17 | c17
      · have l18 : m.tw = n.tw := by simpa using c17
        refine rw_on (c := (m.tw != n.tw)) rfl rfl rfl (by first | (rw [c17]; rfl) | simp [c17]) ?_
        refine rw_val (v := .pointer (some ⟨g1, 3, none⟩)) (w' := w8) rfl rfl rfl rfl (by simp [go_sem, sEv, sLook, nbeq, i64_w, -List.getD_eq_getElem?_getD, Try.underlying26]) ?_
        refine rw_on (c := (m.tw != n.tw)) rfl rfl rfl (by first | (rw [c17]; rfl) | simp [c17]) ?_
        refine rw_val (v := .slice A3 m.nums.length c3) (w' := w8) rfl rfl rfl rfl (by have eb_ := (hk4.on hb9); have e0_ := eb_.cellv (i := 3) (v := (.slice A3 m.nums.length c3 : Value)) rfl; simp [go_sem, sEv, sLook, nbeq, i64_w, -List.getD_eq_getElem?_getD, e0_, Try.underlying22]) ?_
        refine rw_on (c := (m.tw != n.tw)) rfl rfl rfl (by first | (rw [c17]; rfl) | simp [c17]) ?_
        refine rw_val (v := .int .i64 ((m.nums.length : Nat) : Int)) (w' := w8) rfl rfl rfl rfl (by simp [go_sem, sEv, sLook, nbeq, i64_w, -List.getD_eq_getElem?_getD]) ?_
        refine rw_on (c := (m.tw != n.tw)) rfl rfl rfl (by first | (rw [c17]; rfl) | simp [c17]) ?_
        refine rw_val (v := .pointer (some ⟨g7, 3, none⟩)) (w' := w8) rfl rfl rfl rfl (by simp [go_sem, sEv, sLook, nbeq, i64_w, -List.getD_eq_getElem?_getD, Try.underlying26]) ?_
        refine rw_on (c := (m.tw != n.tw)) rfl rfl rfl (by first | (rw [c17]; rfl) | simp [c17]) ?_
        refine rw_val (v := .slice A6 n.nums.length c6) (w' := w8) rfl rfl rfl rfl (by have eb_ := hk10; have e0_ := eb_.cellv (i := 3) (v := (.slice A6 n.nums.length c6 : Value)) rfl; simp [go_sem, sEv, sLook, nbeq, i64_w, -List.getD_eq_getElem?_getD, e0_, Try.underlying22]) ?_
        refine rw_on (c := (m.tw != n.tw)) rfl rfl rfl (by first | (rw [c17]; rfl) | simp [c17]) ?_
        refine rw_val (v := .int .i64 ((n.nums.length : Nat) : Int)) (w' := w8) rfl rfl rfl rfl (by simp [go_sem, sEv, sLook, nbeq, i64_w, -List.getD_eq_getElem?_getD]) ?_
        refine rw_on (c := (m.tw != n.tw)) rfl rfl rfl (by first | (rw [c17]; rfl) | simp [c17]) ?_
        refine rw_val (v := .bool (((m.nums.length : Nat) : Int) != ((n.nums.length : Nat) : Int))) (w' := w8) rfl rfl rfl rfl (by simp [go_sem, sEv, sLook, nbeq, i64_w, -List.getD_eq_getElem?_getD]) ?_
        refine rw_val (v := .bool (((m.nums.length : Nat) : Int) != ((n.nums.length : Nat) : Int))) (w' := w8) rfl rfl rfl rfl (by first | (simp [go_sem, sEv, sLook, nbeq, i64_w, -List.getD_eq_getElem?_getD, c17]; done) | (rw [c17]; simp [go_sem, sEv, sLook, nbeq, i64_w, -List.getD_eq_getElem?_getD]; done) | (simp [go_sem, sEv, sLook, nbeq, i64_w, -List.getD_eq_getElem?_getD] <;> omega) | (simp [go_sem, sEv, sLook, nbeq, i64_w, -List.getD_eq_getElem?_getD]; intro h_; exact absurd (by omega) h_)) ?_
        refine rw_val (v := .bool (((m.nums.length : Nat) : Int) != ((n.nums.length : Nat) : Int))) (w' := w8) rfl rfl rfl rfl rfl ?_
        rcases bcase (((m.nums.length : Nat) : Int) != ((n.nums.length : Nat) : Int)) with c19 | c19
        · have l20 : ((m.nums.length : Nat) : Int) = ((n.nums.length : Nat) : Int) := by simpa using c19
          refine rw_on (c := (((m.nums.length : Nat) : Int) != ((n.nums.length : Nat) : Int))) rfl rfl rfl (by first | (rw [c19]; rfl) | simp [c19]) ?_
          refine rw_val (v := .pointer (some ⟨g1, 4, none⟩)) (w' := w8) rfl rfl rfl rfl (by simp [go_sem, sEv, sLook, nbeq, i64_w, -List.getD_eq_getElem?_getD, Try.underlying26]) ?_
          refine rw_on (c := (((m.nums.length : Nat) : Int) != ((n.nums.length : Nat) : Int))) rfl rfl rfl (by first | (rw [c19]; rfl) | simp [c19]) ?_
          refine rw_val (v := .slice A4 m.ops.length c4) (w' := w8) rfl rfl rfl rfl (by have eb_ := (hk4.on hb9); have e0_ := eb_.cellv (i := 4) (v := (.slice A4 m.ops.length c4 : Value)) rfl; simp [go_sem, sEv, sLook, nbeq, i64_w, -List.getD_eq_getElem?_getD, e0_, Try.underlying23]) ?_
          refine rw_on (c := (((m.nums.length : Nat) : Int) != ((n.nums.length : Nat) : Int))) rfl rfl rfl (by first | (rw [c19]; rfl) | simp [c19]) ?_
          refine rw_val (v := .int .i64 ((m.ops.length : Nat) : Int)) (w' := w8) rfl rfl rfl rfl (by simp [go_sem, sEv, sLook, nbeq, i64_w, -List.getD_eq_getElem?_getD]) ?_
          refine rw_on (c := (((m.nums.length : Nat) : Int) != ((n.nums.length : Nat) : Int))) rfl rfl rfl (by first | (rw [c19]; rfl) | simp [c19]) ?_
          refine rw_val (v := .pointer (some ⟨g7, 4, none⟩)) (w' := w8) rfl rfl rfl rfl (by simp [go_sem, sEv, sLook, nbeq, i64_w, -List.getD_eq_getElem?_getD, Try.underlying26]) ?_
          refine rw_on (c := (((m.nums.length : Nat) : Int) != ((n.nums.length : Nat) : Int))) rfl rfl rfl (by first | (rw [c19]; rfl) | simp [c19]) ?_
          refine rw_val (v := .slice A7 n.ops.length c7) (w' := w8) rfl rfl rfl rfl (by have eb_ := hk10; have e0_ := eb_.cellv (i := 4) (v := (.slice A7 n.ops.length c7 : Value)) rfl; simp [go_sem, sEv, sLook, nbeq, i64_w, -List.getD_eq_getElem?_getD, e0_, Try.underlying23]) ?_
          refine rw_on (c := (((m.nums.length : Nat) : Int) != ((n.nums.length : Nat) : Int))) rfl rfl rfl (by first | (rw [c19]; rfl) | simp [c19]) ?_
          refine rw_val (v := .int .i64 ((n.ops.length : Nat) : Int)) (w' := w8) rfl rfl rfl rfl (by simp [go_sem, sEv, sLook, nbeq, i64_w, -List.getD_eq_getElem?_getD]) ?_
          refine rw_on (c := (((m.nums.length : Nat) : Int) != ((n.nums.length : Nat) : Int))) rfl rfl rfl (by first | (rw [c19]; rfl) | simp [c19]) ?_
          refine rw_val (v := .bool (((m.ops.length : Nat) : Int) != ((n.ops.length : Nat) : Int))) (w' := w8) rfl rfl rfl rfl (by simp [go_sem, sEv, sLook, nbeq, i64_w, -List.getD_eq_getElem?_getD]) ?_
          refine rw_val (v := .bool (((m.ops.length : Nat) : Int) != ((n.ops.length : Nat) : Int))) (w' := w8) rfl rfl rfl rfl (by first | (simp [go_sem, sEv, sLook, nbeq, i64_w, -List.getD_eq_getElem?_getD, c19]; done) | (rw [c19]; simp [go_sem, sEv, sLook, nbeq, i64_w, -List.getD_eq_getElem?_getD]; done) | (simp [go_sem, sEv, sLook, nbeq, i64_w, -List.getD_eq_getElem?_getD] <;> omega) | (simp [go_sem, sEv, sLook, nbeq, i64_w, -List.getD_eq_getElem?_getD]; intro h_; exact absurd (by omega) h_)) ?_
          refine rw_val (v := .bool (((m.ops.length : Nat) : Int) != ((n.ops.length : Nat) : Int))) (w' := w8) rfl rfl rfl rfl rfl ?_
          rcases bcase (((m.ops.length : Nat) : Int) != ((n.ops.length : Nat) : Int)) with c21 | c21
          · have l22 : ((m.ops.length : Nat) : Int) = ((n.ops.length : Nat) : Int) := by simpa using c21
            refine rw_on (c := (((m.ops.length : Nat) : Int) != ((n.ops.length : Nat) : Int))) rfl rfl rfl (by first | (rw [c21]; rfl) | simp [c21]) ?_
            refine rw_val (v := .pointer (some ⟨g1, 5, none⟩)) (w' := w8) rfl rfl rfl rfl (by simp [go_sem, sEv, sLook, nbeq, i64_w, -List.getD_eq_getElem?_getD, Try.underlying26]) ?_
            refine rw_on (c := (((m.ops.length : Nat) : Int) != ((n.ops.length : Nat) : Int))) rfl rfl rfl (by first | (rw [c21]; rfl) | simp [c21]) ?_
            refine rw_val (v := .slice A5 m.ents.length c5) (w' := w8) rfl rfl rfl rfl (by have eb_ := (hk4.on hb9); have e0_ := eb_.cellv (i := 5) (v := (.slice A5 m.ents.length c5 : Value)) rfl; simp [go_sem, sEv, sLook, nbeq, i64_w, -List.getD_eq_getElem?_getD, e0_, Try.underlying24]) ?_
            refine rw_on (c := (((m.ops.length : Nat) : Int) != ((n.ops.length : Nat) : Int))) rfl rfl rfl (by first | (rw [c21]; rfl) | simp [c21]) ?_
            refine rw_val (v := .int .i64 ((m.ents.length : Nat) : Int)) (w' := w8) rfl rfl rfl rfl (by simp [go_sem, sEv, sLook, nbeq, i64_w, -List.getD_eq_getElem?_getD]) ?_
            refine rw_on (c := (((m.ops.length : Nat) : Int) != ((n.ops.length : Nat) : Int))) rfl rfl rfl (by first | (rw [c21]; rfl) | simp [c21]) ?_
            refine rw_val (v := .pointer (some ⟨g7, 5, none⟩)) (w' := w8) rfl rfl rfl rfl (by simp [go_sem, sEv, sLook, nbeq, i64_w, -List.getD_eq_getElem?_getD, Try.underlying26]) ?_
            refine rw_on (c := (((m.ops.length : Nat) : Int) != ((n.ops.length : Nat) : Int))) rfl rfl rfl (by first | (rw [c21]; rfl) | simp [c21]) ?_
            refine rw_val (v := .slice A8 n.ents.length c8) (w' := w8) rfl rfl rfl rfl (by have eb_ := hk10; have e0_ := eb_.cellv (i := 5) (v := (.slice A8 n.ents.length c8 : Value)) rfl; simp [go_sem, sEv, sLook, nbeq, i64_w, -List.getD_eq_getElem?_getD, e0_, Try.underlying24]) ?_
            refine rw_on (c := (((m.ops.length : Nat) : Int) != ((n.ops.length : Nat) : Int))) rfl rfl rfl (by first | (rw [c21]; rfl) | simp [c21]) ?_
            refine rw_val (v := .int .i64 ((n.ents.length : Nat) : Int)) (w' := w8) rfl rfl rfl rfl (by simp [go_sem, sEv, sLook, nbeq, i64_w, -List.getD_eq_getElem?_getD]) ?_
            refine rw_on (c := (((m.ops.length : Nat) : Int) != ((n.ops.length : Nat) : Int))) rfl rfl rfl (by first | (rw [c21]; rfl) | simp [c21]) ?_
            refine rw_val (v := .bool (((m.ents.length : Nat) : Int) != ((n.ents.length : Nat) : Int))) (w' := w8) rfl rfl rfl rfl (by simp [go_sem, sEv, sLook, nbeq, i64_w, -List.getD_eq_getElem?_getD]) ?_
            refine rw_val (v := .bool (((m.ents.length : Nat) : Int) != ((n.ents.length : Nat) : Int))) (w' := w8) rfl rfl rfl rfl (by first | (simp [go_sem, sEv, sLook, nbeq, i64_w, -List.getD_eq_getElem?_getD, c21]; done) | (rw [c21]; simp [go_sem, sEv, sLook, nbeq, i64_w, -List.getD_eq_getElem?_getD]; done) | (simp [go_sem, sEv, sLook, nbeq, i64_w, -List.getD_eq_getElem?_getD] <;> omega) | (simp [go_sem, sEv, sLook, nbeq, i64_w, -List.getD_eq_getElem?_getD]; intro h_; exact absurd (by omega) h_)) ?_
            refine rw_end ?_
            refine w_weaken (G' := [(2, .pointer (some ⟨g1, 0, none⟩)), (3, .pointer (some ⟨g7, 0, none⟩)), (4, .bool false), (53, .bool (((m.ents.length : Nat) : Int) != ((n.ents.length : Nat) : Int)))]) ⟨rfl, rfl, rfl, rfl, trivial⟩ ?_
            refine w_cond rfl rfl (fun c23 => ?_) (fun c23 => ?_)
            · have l24 : ¬ ((m.ents.length : Nat) : Int) = ((n.ents.length : Nat) : Int) := by simpa using c23
              refine w_seq ?_
              refine w_region ?_
              refine rw_val (v := .bool false) (w' := w8) rfl rfl rfl rfl rfl ?_
              refine rw_end ?_
              refine w_ret (post_ret1 rfl rfl ?_)
              exact ⟨_, rfl, no_iff (fun h_ => by obtain ⟨⟨q1, q2, q3⟩, q4, q5, q6⟩ := (same_iff m n).1 h_; have q7 := congrArg List.length q4; have q8 := congrArg List.length q5; have q9 := congrArg List.length q6; omega), (chain hb3 hb9)⟩
            · have l25 : ((m.ents.length : Nat) : Int) = ((n.ents.length : Nat) : Int) := by simpa using c23
              refine w_skip ?_
              refine w_seq ?_
              refine w_seq ?_
              refine w_region ?_
              refine rw_val (v := .int .i64 0) (w' := w8) rfl rfl rfl rfl rfl ?_
              refine rw_end ?_
              refine w_block ?_
              refine w_loop (fun m_ G W_ => ∃ (j0 : Nat), j0 + m_ = m.nums.length ∧ n.nums.length = m.nums.length ∧ Below w.heap.size w W_ ∧ (Blk W_ g1 26 #[.int .i64 m.kind, .int .i64 m.fr, .int .i64 m.tw, .slice A3 m.nums.length c3, .slice A4 m.ops.length c4, .slice A5 m.ents.length c5]) ∧ (Blk W_ g7 26 #[.int .i64 n.kind, .int .i64 n.fr, .int .i64 n.tw, .slice A6 n.nums.length c6, .slice A7 n.ops.length c7, .slice A8 n.ents.length c8]) ∧ (m.nums.take j0 = n.nums.take j0) ∧ G = [(2, .pointer (some ⟨g1, 0, none⟩)), (3, .pointer (some ⟨g7, 0, none⟩)), (5, .int .i64 ((j0 : Nat) : Int))]) m.nums.length [(2, .pointer (some ⟨g1, 0, none⟩)), (3, .pointer (some ⟨g7, 0, none⟩)), (5, .int .i64 0)] ⟨0, by omega, by omega, (chain hb3 hb9), (hk4.on hb9), hk10, (by simp), rfl⟩ ⟨rfl, rfl, rfl, trivial⟩ ?_
              rintro m0_ G w_L26 ⟨j0, hp27, hp28, hB_L26, hf29, hf30, hf31, rfl⟩
              have hs_w_L26 := hB_L26.size
              have hltb_hf29 := hf29.lt
              have hltb_hf30 := hf30.lt
              refine w_seq ?_
              refine w_seq ?_
              refine w_region ?_
              refine rw_val (v := .int .i64 ((j0 : Nat) : Int)) (w' := w_L26) rfl rfl rfl rfl rfl ?_
              refine rw_val (v := .pointer (some ⟨g1, 3, none⟩)) (w' := w_L26) rfl rfl rfl rfl (by simp [go_sem, sEv, sLook, nbeq, i64_w, -List.getD_eq_getElem?_getD, Try.underlying26]) ?_
              refine rw_val (v := .slice A3 m.nums.length c3) (w' := w_L26) rfl rfl rfl rfl (by have eb_ := hf29; have e0_ := eb_.cellv (i := 3) (v := (.slice A3 m.nums.length c3 : Value)) rfl; simp [go_sem, sEv, sLook, nbeq, i64_w, -List.getD_eq_getElem?_getD, e0_, Try.underlying22]) ?_
              refine rw_val (v := .int .i64 ((m.nums.length : Nat) : Int)) (w' := w_L26) rfl rfl rfl rfl (by simp [go_sem, sEv, sLook, nbeq, i64_w, -List.getD_eq_getElem?_getD]) ?_
              refine rw_val (v := .bool (decide (((j0 : Nat) : Int) < ((m.nums.length : Nat) : Int)))) (w' := w_L26) rfl rfl rfl rfl (by simp [go_sem, sEv, sLook, nbeq, i64_w, -List.getD_eq_getElem?_getD]) ?_
              refine rw_end ?_
              refine w_weaken (G' := [(2, .pointer (some ⟨g1, 0, none⟩)), (3, .pointer (some ⟨g7, 0, none⟩)), (5, .int .i64 ((j0 : Nat) : Int)), (58, .bool (decide (((j0 : Nat) : Int) < ((m.nums.length : Nat) : Int))))]) ⟨rfl, rfl, rfl, rfl, trivial⟩ ?_
              refine w_cond rfl rfl (fun cJ => ?_) (fun cJ => ?_)
              · have l32 : (((j0 : Nat) : Int) < ((m.nums.length : Nat) : Int)) := of_decide_eq_true cJ
                refine w_skip ?_
                refine w_seq ?_
                refine w_block ?_
                refine w_seq ?_
                obtain ⟨ad33, hA34, hc35⟩ := int_at (Kd.C_below hn3 hB_L26) 0 j0 (by first | omega | decide)
                subst hA34
                have he36 : w_L26.cell? (ad33.add (j0)) = some (.int .i64 (m.nums.getD j0 0)) := cell_0 (hc35 0 _ rfl)
                obtain ⟨ad37, hA38, hc39⟩ := int_at (Kd.C_below hn6 hB_L26) 0 j0 (by first | omega | decide)
                subst hA38
                have he40 : w_L26.cell? (ad37.add (j0)) = some (.int .i64 (n.nums.getD j0 0)) := cell_0 (hc39 0 _ rfl)
                refine w_drawk (M := [0, 1, 0, 7, 15, 0, 32, 0, 224, 480, 1023]) (ss := [Is (.pointer (some ⟨g1, 3, none⟩)), Is (.slice (some ad33) m.nums.length c3), Is (.int .i64 ((j0 : Nat) : Int)), Is (.pointer (some (ad33.add (j0)))), Is (.int .i64 (m.nums.getD j0 0)), Is (.pointer (some ⟨g7, 3, none⟩)), Is (.slice (some ad37) n.nums.length c6), Is (.int .i64 ((j0 : Nat) : Int)), Is (.pointer (some (ad37.add (j0)))), Is (.int .i64 (n.nums.getD j0 0))]) 10 rfl (by decide +kernel) ?_
                refine t_is (.pointer (some ⟨g1, 3, none⟩)) rfl rfl rfl rfl (fun W_ hW_ F_ => by simp [go_sem, sEv, sLook, nbeq, i64_w, -List.getD_eq_getElem?_getD, Try.underlying26]) ?_
                refine t_is (.slice (some ad33) m.nums.length c3) rfl rfl rfl rfl (fun W_ hW_ F_ => by have eb_ := (hf29.on (below_of_drew hW_)); have e0_ := eb_.cellv (i := 3) (v := (.slice (some ad33) m.nums.length c3 : Value)) rfl; simp [go_sem, sEv, sLook, nbeq, i64_w, -List.getD_eq_getElem?_getD, e0_, Try.underlying22]) ?_
                refine t_is (.int .i64 ((j0 : Nat) : Int)) rfl rfl rfl rfl (fun W_ hW_ F_ => rfl) ?_
                refine t_is (.pointer (some (ad33.add (j0)))) rfl rfl rfl rfl (fun W_ hW_ F_ => (run_as (run_at_1 (P := Try.prog) (e := 3) (by kernel_rfl) (by kernel_rfl) j0 (by first | omega | decide) _))) ?_
                refine t_is (.int .i64 (m.nums.getD j0 0)) rfl rfl rfl rfl (fun W_ hW_ F_ => by have e0_ := cellOn he36 (below_of_drew hW_); simp [go_sem, sEv, sLook, nbeq, i64_w, -List.getD_eq_getElem?_getD, e0_]) ?_
                refine t_is (.pointer (some ⟨g7, 3, none⟩)) rfl rfl rfl rfl (fun W_ hW_ F_ => by simp [go_sem, sEv, sLook, nbeq, i64_w, -List.getD_eq_getElem?_getD, Try.underlying26]) ?_
                refine t_is (.slice (some ad37) n.nums.length c6) rfl rfl rfl rfl (fun W_ hW_ F_ => by have eb_ := (hf30.on (below_of_drew hW_)); have e0_ := eb_.cellv (i := 3) (v := (.slice (some ad37) n.nums.length c6 : Value)) rfl; simp [go_sem, sEv, sLook, nbeq, i64_w, -List.getD_eq_getElem?_getD, e0_, Try.underlying22]) ?_
                refine t_is (.int .i64 ((j0 : Nat) : Int)) rfl rfl rfl rfl (fun W_ hW_ F_ => rfl) ?_
                refine t_is (.pointer (some (ad37.add (j0)))) rfl rfl rfl rfl (fun W_ hW_ F_ => (run_as (run_at_1 (P := Try.prog) (e := 3) (by kernel_rfl) (by kernel_rfl) j0 (by first | omega | decide) _))) ?_
                refine t_is (.int .i64 (n.nums.getD j0 0)) rfl rfl rfl rfl (fun W_ hW_ F_ => by have e0_ := cellOn he40 (below_of_drew hW_); simp [go_sem, sEv, sLook, nbeq, i64_w, -List.getD_eq_getElem?_getD, e0_]) ?_
                refine t_tail ?_
                intro w41 hb42_ F43
                have hb42 := below_of_drew hb42_
                have hs_w41 := hb42.size
                clear F43
                refine rw_val (v := .bool ((m.nums.getD j0 0) != (n.nums.getD j0 0))) (w' := w41) rfl rfl rfl rfl (by simp [go_sem, sEv, sLook, nbeq, i64_w, -List.getD_eq_getElem?_getD]) ?_
                refine rw_end ?_
                refine w_weaken (G' := [(2, .pointer (some ⟨g1, 0, none⟩)), (3, .pointer (some ⟨g7, 0, none⟩)), (5, .int .i64 ((j0 : Nat) : Int)), (71, .bool ((m.nums.getD j0 0) != (n.nums.getD j0 0)))]) ⟨rfl, rfl, rfl, rfl, trivial⟩ ?_
                refine w_cond rfl rfl (fun cD => ?_) (fun cD => ?_)
                · have l44 : ¬ (m.nums.getD j0 0) = (n.nums.getD j0 0) := by simpa using cD
                  refine w_seq ?_
                  refine w_region ?_
                  refine rw_val (v := .bool false) (w' := w41) rfl rfl rfl rfl rfl ?_
                  refine rw_end ?_
                  refine w_ret (post_ret1 rfl rfl ?_)
                  exact ⟨_, rfl, no_iff (fun h_ => getD_ne (z := 0) (j := j0) (by simpa using cD) ((same_iff m n).1 h_).2.1), (chain hB_L26 hb42)⟩
                · have l45 : (m.nums.getD j0 0) = (n.nums.getD j0 0) := by simpa using cD
                  refine w_skip ?_
                  refine w_blk ?_
                  refine w_region ?_
                  refine rw_val (v := .int .i64 ((j0 : Nat) : Int)) (w' := w41) rfl rfl rfl rfl rfl ?_
                  refine rw_val (v := .int .i64 ((j0 + 1 : Nat) : Int)) (w' := w41) rfl rfl rfl rfl (by simp [go_sem, sEv, sLook, nbeq, i64_w, -List.getD_eq_getElem?_getD]; exact wrap_id (by omega) (by omega)) ?_
                  refine rw_val (v := .int .i64 ((j0 + 1 : Nat) : Int)) (w' := w41) rfl rfl rfl rfl rfl ?_
                  refine rw_end ?_
                  exact w_back (m0_ - 1) [(2, .pointer (some ⟨g1, 0, none⟩)), (3, .pointer (some ⟨g7, 0, none⟩)), (5, .int .i64 ((j0 + 1 : Nat) : Int))] (by omega) ⟨rfl, rfl, rfl, trivial⟩ ⟨(j0 + 1), by omega, by omega, (chain hB_L26 hb42), (hf29.on hb42), (hf30.on hb42), (take_eq_step (z := 0) (by omega) (by omega) hf31 (by simpa using cD)), rfl⟩
              · have l46 : ¬ (((j0 : Nat) : Int) < ((m.nums.length : Nat) : Int)) := of_decide_eq_false cJ
                refine w_exit rfl ?_
                refine w_seq ?_
                refine w_seq ?_
                refine w_region ?_
                refine rw_val (v := .int .i64 0) (w' := w_L26) rfl rfl rfl rfl rfl ?_
                refine rw_end ?_
                refine w_block ?_
                have heq1_ : m.nums = n.nums := take_eq_all (by omega) (by omega) hf31
                refine w_loop (fun m_ G W_ => ∃ (j1 : Nat), j1 + m_ = m.ops.length ∧ n.ops.length = m.ops.length ∧ Below w.heap.size w W_ ∧ (Blk W_ g1 26 #[.int .i64 m.kind, .int .i64 m.fr, .int .i64 m.tw, .slice A3 m.nums.length c3, .slice A4 m.ops.length c4, .slice A5 m.ents.length c5]) ∧ (Blk W_ g7 26 #[.int .i64 n.kind, .int .i64 n.fr, .int .i64 n.tw, .slice A6 n.nums.length c6, .slice A7 n.ops.length c7, .slice A8 n.ents.length c8]) ∧ (m.ops.take j1 = n.ops.take j1) ∧ G = [(2, .pointer (some ⟨g1, 0, none⟩)), (3, .pointer (some ⟨g7, 0, none⟩)), (6, .int .i64 ((j1 : Nat) : Int))]) m.ops.length [(2, .pointer (some ⟨g1, 0, none⟩)), (3, .pointer (some ⟨g7, 0, none⟩)), (6, .int .i64 0)] ⟨0, by omega, by omega, hB_L26, hf29, hf30, (by simp), rfl⟩ ⟨rfl, rfl, rfl, trivial⟩ ?_
                rintro m1_ G w_L47 ⟨j1, hp48, hp49, hB_L47, hf50, hf51, hf52, rfl⟩
                have hs_w_L47 := hB_L47.size
                have hltb_hf50 := hf50.lt
                have hltb_hf51 := hf51.lt
                refine w_seq ?_
                refine w_seq ?_
                refine w_region ?_
                refine rw_val (v := .int .i64 ((j1 : Nat) : Int)) (w' := w_L47) rfl rfl rfl rfl rfl ?_
                refine rw_val (v := .pointer (some ⟨g1, 4, none⟩)) (w' := w_L47) rfl rfl rfl rfl (by simp [go_sem, sEv, sLook, nbeq, i64_w, -List.getD_eq_getElem?_getD, Try.underlying26]) ?_
                refine rw_val (v := .slice A4 m.ops.length c4) (w' := w_L47) rfl rfl rfl rfl (by have eb_ := hf50; have e0_ := eb_.cellv (i := 4) (v := (.slice A4 m.ops.length c4 : Value)) rfl; simp [go_sem, sEv, sLook, nbeq, i64_w, -List.getD_eq_getElem?_getD, e0_, Try.underlying23]) ?_
                refine rw_val (v := .int .i64 ((m.ops.length : Nat) : Int)) (w' := w_L47) rfl rfl rfl rfl (by simp [go_sem, sEv, sLook, nbeq, i64_w, -List.getD_eq_getElem?_getD]) ?_
                refine rw_val (v := .bool (decide (((j1 : Nat) : Int) < ((m.ops.length : Nat) : Int)))) (w' := w_L47) rfl rfl rfl rfl (by simp [go_sem, sEv, sLook, nbeq, i64_w, -List.getD_eq_getElem?_getD]) ?_
                refine rw_end ?_
                refine w_weaken (G' := [(2, .pointer (some ⟨g1, 0, none⟩)), (3, .pointer (some ⟨g7, 0, none⟩)), (6, .int .i64 ((j1 : Nat) : Int)), (76, .bool (decide (((j1 : Nat) : Int) < ((m.ops.length : Nat) : Int))))]) ⟨rfl, rfl, rfl, rfl, trivial⟩ ?_
                refine w_cond rfl rfl (fun cJ => ?_) (fun cJ => ?_)
                · have l53 : (((j1 : Nat) : Int) < ((m.ops.length : Nat) : Int)) := of_decide_eq_true cJ
                  refine w_skip ?_
                  refine w_seq ?_
                  refine w_block ?_
                  refine w_seq ?_
                  obtain ⟨ad54, hA55, hc56⟩ := flat_at (Kd.C_below hn4 hB_L47) (0, 0, 0, 0, 0) j1 (by first | omega | decide)
                  subst hA55
                  have he57 : w_L47.cell? (ad54.add (j1 * 5)) = some (.int .i64 ((m.ops.getD j1 (0, 0, 0, 0, 0)).1)) := cell_0 (hc56 0 _ rfl)
                  have he58 : w_L47.cell? ⟨(ad54.add (j1 * 5)).block, (ad54.add (j1 * 5)).off + 1, none⟩ = some (.int .i64 ((m.ops.getD j1 (0, 0, 0, 0, 0)).2.1)) := cell_j (hc56 1 _ rfl)
                  have he59 : w_L47.cell? ⟨(ad54.add (j1 * 5)).block, (ad54.add (j1 * 5)).off + 2, none⟩ = some (.int .i64 ((m.ops.getD j1 (0, 0, 0, 0, 0)).2.2.1)) := cell_j (hc56 2 _ rfl)
                  have he60 : w_L47.cell? ⟨(ad54.add (j1 * 5)).block, (ad54.add (j1 * 5)).off + 3, none⟩ = some (.int .i64 ((m.ops.getD j1 (0, 0, 0, 0, 0)).2.2.2.1)) := cell_j (hc56 3 _ rfl)
                  have he61 : w_L47.cell? ⟨(ad54.add (j1 * 5)).block, (ad54.add (j1 * 5)).off + 4, none⟩ = some (.int .i64 ((m.ops.getD j1 (0, 0, 0, 0, 0)).2.2.2.2)) := cell_j (hc56 4 _ rfl)
                  obtain ⟨ad62, hA63, hc64⟩ := flat_at (Kd.C_below hn7 hB_L47) (0, 0, 0, 0, 0) j1 (by first | omega | decide)
                  subst hA63
                  have he65 : w_L47.cell? (ad62.add (j1 * 5)) = some (.int .i64 ((n.ops.getD j1 (0, 0, 0, 0, 0)).1)) := cell_0 (hc64 0 _ rfl)
                  have he66 : w_L47.cell? ⟨(ad62.add (j1 * 5)).block, (ad62.add (j1 * 5)).off + 1, none⟩ = some (.int .i64 ((n.ops.getD j1 (0, 0, 0, 0, 0)).2.1)) := cell_j (hc64 1 _ rfl)
                  have he67 : w_L47.cell? ⟨(ad62.add (j1 * 5)).block, (ad62.add (j1 * 5)).off + 2, none⟩ = some (.int .i64 ((n.ops.getD j1 (0, 0, 0, 0, 0)).2.2.1)) := cell_j (hc64 2 _ rfl)
                  have he68 : w_L47.cell? ⟨(ad62.add (j1 * 5)).block, (ad62.add (j1 * 5)).off + 3, none⟩ = some (.int .i64 ((n.ops.getD j1 (0, 0, 0, 0, 0)).2.2.2.1)) := cell_j (hc64 3 _ rfl)
                  have he69 : w_L47.cell? ⟨(ad62.add (j1 * 5)).block, (ad62.add (j1 * 5)).off + 4, none⟩ = some (.int .i64 ((n.ops.getD j1 (0, 0, 0, 0, 0)).2.2.2.2)) := cell_j (hc64 4 _ rfl)
                  refine w_drawk (M := [0, 1, 0, 7, 15, 0, 32, 0, 224, 480, 1023]) (ss := [Is (.pointer (some ⟨g1, 4, none⟩)), Is (.slice (some ad54) m.ops.length c4), Is (.int .i64 ((j1 : Nat) : Int)), Is (.pointer (some (ad54.add (j1 * 5)))), Is (.agg #[.int .i64 ((m.ops.getD j1 (0, 0, 0, 0, 0)).1), .int .i64 ((m.ops.getD j1 (0, 0, 0, 0, 0)).2.1), .int .i64 ((m.ops.getD j1 (0, 0, 0, 0, 0)).2.2.1), .int .i64 ((m.ops.getD j1 (0, 0, 0, 0, 0)).2.2.2.1), .int .i64 ((m.ops.getD j1 (0, 0, 0, 0, 0)).2.2.2.2)]), Is (.pointer (some ⟨g7, 4, none⟩)), Is (.slice (some ad62) n.ops.length c7), Is (.int .i64 ((j1 : Nat) : Int)), Is (.pointer (some (ad62.add (j1 * 5)))), Is (.agg #[.int .i64 ((n.ops.getD j1 (0, 0, 0, 0, 0)).1), .int .i64 ((n.ops.getD j1 (0, 0, 0, 0, 0)).2.1), .int .i64 ((n.ops.getD j1 (0, 0, 0, 0, 0)).2.2.1), .int .i64 ((n.ops.getD j1 (0, 0, 0, 0, 0)).2.2.2.1), .int .i64 ((n.ops.getD j1 (0, 0, 0, 0, 0)).2.2.2.2)])]) 10 rfl (by decide +kernel) ?_
                  refine t_is (.pointer (some ⟨g1, 4, none⟩)) rfl rfl rfl rfl (fun W_ hW_ F_ => by simp [go_sem, sEv, sLook, nbeq, i64_w, -List.getD_eq_getElem?_getD, Try.underlying26]) ?_
                  refine t_is (.slice (some ad54) m.ops.length c4) rfl rfl rfl rfl (fun W_ hW_ F_ => by have eb_ := (hf50.on (below_of_drew hW_)); have e0_ := eb_.cellv (i := 4) (v := (.slice (some ad54) m.ops.length c4 : Value)) rfl; simp [go_sem, sEv, sLook, nbeq, i64_w, -List.getD_eq_getElem?_getD, e0_, Try.underlying23]) ?_
                  refine t_is (.int .i64 ((j1 : Nat) : Int)) rfl rfl rfl rfl (fun W_ hW_ F_ => rfl) ?_
                  refine t_is (.pointer (some (ad54.add (j1 * 5)))) rfl rfl rfl rfl (fun W_ hW_ F_ => (run_as (run_at_k (P := Try.prog) (e := 73) (sz := 5) (by kernel_rfl) (by kernel_rfl) j1 (by first | omega | decide) _))) ?_
                  refine t_is (.agg #[.int .i64 ((m.ops.getD j1 (0, 0, 0, 0, 0)).1), .int .i64 ((m.ops.getD j1 (0, 0, 0, 0, 0)).2.1), .int .i64 ((m.ops.getD j1 (0, 0, 0, 0, 0)).2.2.1), .int .i64 ((m.ops.getD j1 (0, 0, 0, 0, 0)).2.2.2.1), .int .i64 ((m.ops.getD j1 (0, 0, 0, 0, 0)).2.2.2.2)]) rfl rfl rfl rfl (fun W_ hW_ F_ => by have e0_ := cellOn he57 (below_of_drew hW_); have e1_ := cellOn he58 (below_of_drew hW_); have e2_ := cellOn he59 (below_of_drew hW_); have e3_ := cellOn he60 (below_of_drew hW_); have e4_ := cellOn he61 (below_of_drew hW_); simp [go_sem, sEv, sLook, nbeq, i64_w, -List.getD_eq_getElem?_getD, e0_, e1_, e2_, e3_, e4_, Try.underlying73]) ?_
                  refine t_is (.pointer (some ⟨g7, 4, none⟩)) rfl rfl rfl rfl (fun W_ hW_ F_ => by simp [go_sem, sEv, sLook, nbeq, i64_w, -List.getD_eq_getElem?_getD, Try.underlying26]) ?_
                  refine t_is (.slice (some ad62) n.ops.length c7) rfl rfl rfl rfl (fun W_ hW_ F_ => by have eb_ := (hf51.on (below_of_drew hW_)); have e0_ := eb_.cellv (i := 4) (v := (.slice (some ad62) n.ops.length c7 : Value)) rfl; simp [go_sem, sEv, sLook, nbeq, i64_w, -List.getD_eq_getElem?_getD, e0_, Try.underlying23]) ?_
                  refine t_is (.int .i64 ((j1 : Nat) : Int)) rfl rfl rfl rfl (fun W_ hW_ F_ => rfl) ?_
                  refine t_is (.pointer (some (ad62.add (j1 * 5)))) rfl rfl rfl rfl (fun W_ hW_ F_ => (run_as (run_at_k (P := Try.prog) (e := 73) (sz := 5) (by kernel_rfl) (by kernel_rfl) j1 (by first | omega | decide) _))) ?_
                  refine t_is (.agg #[.int .i64 ((n.ops.getD j1 (0, 0, 0, 0, 0)).1), .int .i64 ((n.ops.getD j1 (0, 0, 0, 0, 0)).2.1), .int .i64 ((n.ops.getD j1 (0, 0, 0, 0, 0)).2.2.1), .int .i64 ((n.ops.getD j1 (0, 0, 0, 0, 0)).2.2.2.1), .int .i64 ((n.ops.getD j1 (0, 0, 0, 0, 0)).2.2.2.2)]) rfl rfl rfl rfl (fun W_ hW_ F_ => by have e0_ := cellOn he65 (below_of_drew hW_); have e1_ := cellOn he66 (below_of_drew hW_); have e2_ := cellOn he67 (below_of_drew hW_); have e3_ := cellOn he68 (below_of_drew hW_); have e4_ := cellOn he69 (below_of_drew hW_); simp [go_sem, sEv, sLook, nbeq, i64_w, -List.getD_eq_getElem?_getD, e0_, e1_, e2_, e3_, e4_, Try.underlying73]) ?_
                  refine t_tail ?_
                  intro w70 hb71_ F72
                  have hb71 := below_of_drew hb71_
                  have hs_w70 := hb71.size
                  clear F72
                  refine rw_val (v := .bool (!(((m.ops.getD j1 (0, 0, 0, 0, 0)).1) == ((n.ops.getD j1 (0, 0, 0, 0, 0)).1) && (((m.ops.getD j1 (0, 0, 0, 0, 0)).2.1) == ((n.ops.getD j1 (0, 0, 0, 0, 0)).2.1) && (((m.ops.getD j1 (0, 0, 0, 0, 0)).2.2.1) == ((n.ops.getD j1 (0, 0, 0, 0, 0)).2.2.1) && (((m.ops.getD j1 (0, 0, 0, 0, 0)).2.2.2.1) == ((n.ops.getD j1 (0, 0, 0, 0, 0)).2.2.2.1) && (((m.ops.getD j1 (0, 0, 0, 0, 0)).2.2.2.2) == ((n.ops.getD j1 (0, 0, 0, 0, 0)).2.2.2.2)))))))) (w' := w70) rfl rfl rfl rfl (by simp [go_sem, sEv, sLook, nbeq, i64_w, -List.getD_eq_getElem?_getD, eqA73]) ?_
                  refine rw_end ?_
                  refine w_weaken (G' := [(2, .pointer (some ⟨g1, 0, none⟩)), (3, .pointer (some ⟨g7, 0, none⟩)), (6, .int .i64 ((j1 : Nat) : Int)), (89, .bool (!(((m.ops.getD j1 (0, 0, 0, 0, 0)).1) == ((n.ops.getD j1 (0, 0, 0, 0, 0)).1) && (((m.ops.getD j1 (0, 0, 0, 0, 0)).2.1) == ((n.ops.getD j1 (0, 0, 0, 0, 0)).2.1) && (((m.ops.getD j1 (0, 0, 0, 0, 0)).2.2.1) == ((n.ops.getD j1 (0, 0, 0, 0, 0)).2.2.1) && (((m.ops.getD j1 (0, 0, 0, 0, 0)).2.2.2.1) == ((n.ops.getD j1 (0, 0, 0, 0, 0)).2.2.2.1) && (((m.ops.getD j1 (0, 0, 0, 0, 0)).2.2.2.2) == ((n.ops.getD j1 (0, 0, 0, 0, 0)).2.2.2.2))))))))]) ⟨rfl, rfl, rfl, rfl, trivial⟩ ?_
                  refine w_cond rfl rfl (fun cD => ?_) (fun cD => ?_)
                  · refine w_seq ?_
                    refine w_region ?_
                    refine rw_val (v := .bool false) (w' := w70) rfl rfl rfl rfl rfl ?_
                    refine rw_end ?_
                    refine w_ret (post_ret1 rfl rfl ?_)
                    exact ⟨_, rfl, no_iff (fun h_ => getD_ne (z := (0, 0, 0, 0, 0)) (j := j1) (fun e_ => by rw [e_] at cD; simp at cD) ((same_iff m n).1 h_).2.2.1), (chain hB_L47 hb71)⟩
                  · refine w_skip ?_
                    refine w_blk ?_
                    refine w_region ?_
                    refine rw_val (v := .int .i64 ((j1 : Nat) : Int)) (w' := w70) rfl rfl rfl rfl rfl ?_
                    refine rw_val (v := .int .i64 ((j1 + 1 : Nat) : Int)) (w' := w70) rfl rfl rfl rfl (by simp [go_sem, sEv, sLook, nbeq, i64_w, -List.getD_eq_getElem?_getD]; exact wrap_id (by omega) (by omega)) ?_
                    refine rw_val (v := .int .i64 ((j1 + 1 : Nat) : Int)) (w' := w70) rfl rfl rfl rfl rfl ?_
                    refine rw_end ?_
                    exact w_back (m1_ - 1) [(2, .pointer (some ⟨g1, 0, none⟩)), (3, .pointer (some ⟨g7, 0, none⟩)), (6, .int .i64 ((j1 + 1 : Nat) : Int))] (by omega) ⟨rfl, rfl, rfl, trivial⟩ ⟨(j1 + 1), by omega, by omega, (chain hB_L47 hb71), (hf50.on hb71), (hf51.on hb71), (take_eq_step (z := (0, 0, 0, 0, 0)) (by omega) (by omega) hf52 (by simp only [Bool.not_eq_false', Bool.not_false, Bool.and_eq_true, beq_iff_eq] at cD; obtain ⟨q1, q2, q3, q4, q5⟩ := cD; exact Prod.ext q1 (Prod.ext q2 (Prod.ext q3 (Prod.ext q4 q5))))), rfl⟩
                · have l73 : ¬ (((j1 : Nat) : Int) < ((m.ops.length : Nat) : Int)) := of_decide_eq_false cJ
                  refine w_exit rfl ?_
                  refine w_seq ?_
                  refine w_seq ?_
                  refine w_region ?_
                  refine rw_val (v := .int .i64 0) (w' := w_L47) rfl rfl rfl rfl rfl ?_
                  refine rw_end ?_
                  refine w_block ?_
                  have heq2_ : m.ops = n.ops := take_eq_all (by omega) (by omega) hf52
                  refine w_loop (fun m_ G W_ => ∃ (j2 : Nat), j2 + m_ = m.ents.length ∧ n.ents.length = m.ents.length ∧ Below w.heap.size w W_ ∧ (Blk W_ g1 26 #[.int .i64 m.kind, .int .i64 m.fr, .int .i64 m.tw, .slice A3 m.nums.length c3, .slice A4 m.ops.length c4, .slice A5 m.ents.length c5]) ∧ (Blk W_ g7 26 #[.int .i64 n.kind, .int .i64 n.fr, .int .i64 n.tw, .slice A6 n.nums.length c6, .slice A7 n.ops.length c7, .slice A8 n.ents.length c8]) ∧ (m.ents.take j2 = n.ents.take j2) ∧ G = [(2, .pointer (some ⟨g1, 0, none⟩)), (3, .pointer (some ⟨g7, 0, none⟩)), (7, .int .i64 ((j2 : Nat) : Int))]) m.ents.length [(2, .pointer (some ⟨g1, 0, none⟩)), (3, .pointer (some ⟨g7, 0, none⟩)), (7, .int .i64 0)] ⟨0, by omega, by omega, hB_L47, hf50, hf51, (by simp), rfl⟩ ⟨rfl, rfl, rfl, trivial⟩ ?_
                  rintro m2_ G w_L74 ⟨j2, hp75, hp76, hB_L74, hf77, hf78, hf79, rfl⟩
                  have hs_w_L74 := hB_L74.size
                  have hltb_hf77 := hf77.lt
                  have hltb_hf78 := hf78.lt
                  refine w_seq ?_
                  refine w_seq ?_
                  refine w_region ?_
                  refine rw_val (v := .int .i64 ((j2 : Nat) : Int)) (w' := w_L74) rfl rfl rfl rfl rfl ?_
                  refine rw_val (v := .pointer (some ⟨g1, 5, none⟩)) (w' := w_L74) rfl rfl rfl rfl (by simp [go_sem, sEv, sLook, nbeq, i64_w, -List.getD_eq_getElem?_getD, Try.underlying26]) ?_
                  refine rw_val (v := .slice A5 m.ents.length c5) (w' := w_L74) rfl rfl rfl rfl (by have eb_ := hf77; have e0_ := eb_.cellv (i := 5) (v := (.slice A5 m.ents.length c5 : Value)) rfl; simp [go_sem, sEv, sLook, nbeq, i64_w, -List.getD_eq_getElem?_getD, e0_, Try.underlying24]) ?_
                  refine rw_val (v := .int .i64 ((m.ents.length : Nat) : Int)) (w' := w_L74) rfl rfl rfl rfl (by simp [go_sem, sEv, sLook, nbeq, i64_w, -List.getD_eq_getElem?_getD]) ?_
                  refine rw_val (v := .bool (decide (((j2 : Nat) : Int) < ((m.ents.length : Nat) : Int)))) (w' := w_L74) rfl rfl rfl rfl (by simp [go_sem, sEv, sLook, nbeq, i64_w, -List.getD_eq_getElem?_getD]) ?_
                  refine rw_end ?_
                  refine w_weaken (G' := [(2, .pointer (some ⟨g1, 0, none⟩)), (3, .pointer (some ⟨g7, 0, none⟩)), (7, .int .i64 ((j2 : Nat) : Int)), (94, .bool (decide (((j2 : Nat) : Int) < ((m.ents.length : Nat) : Int))))]) ⟨rfl, rfl, rfl, rfl, trivial⟩ ?_
                  refine w_cond rfl rfl (fun cJ => ?_) (fun cJ => ?_)
                  · have l80 : (((j2 : Nat) : Int) < ((m.ents.length : Nat) : Int)) := of_decide_eq_true cJ
                    refine w_skip ?_
                    refine w_seq ?_
                    refine w_block ?_
                    refine w_seq ?_
                    obtain ⟨ad81, hA82, hc83⟩ := flat_at (Kd.C_below hn5 hB_L74) EL.zero j2 (by first | omega | decide)
                    subst hA82
                    obtain ⟨ad84, hA85, hc86⟩ := flat_at (Kd.C_below hn8 hB_L74) EL.zero j2 (by first | omega | decide)
                    subst hA85
                    refine w_drawk (M := [0, 1, 0, 7, 15, 0, 32, 0, 224, 480, 1023]) (ss := [Is (.pointer (some ⟨g1, 5, none⟩)), Is (.slice (some ad81) m.ents.length c5), Is (.int .i64 ((j2 : Nat) : Int)), Is (.pointer (some (ad81.add (j2 * 76)))), Is (.agg (earr (m.ents.getD j2 EL.zero))), Is (.pointer (some ⟨g7, 5, none⟩)), Is (.slice (some ad84) n.ents.length c8), Is (.int .i64 ((j2 : Nat) : Int)), Is (.pointer (some (ad84.add (j2 * 76)))), Is (.agg (earr (n.ents.getD j2 EL.zero)))]) 10 rfl (by decide +kernel) ?_
                    refine t_is (.pointer (some ⟨g1, 5, none⟩)) rfl rfl rfl rfl (fun W_ hW_ F_ => by simp [go_sem, sEv, sLook, nbeq, i64_w, -List.getD_eq_getElem?_getD, Try.underlying26]) ?_
                    refine t_is (.slice (some ad81) m.ents.length c5) rfl rfl rfl rfl (fun W_ hW_ F_ => by have eb_ := (hf77.on (below_of_drew hW_)); have e0_ := eb_.cellv (i := 5) (v := (.slice (some ad81) m.ents.length c5 : Value)) rfl; simp [go_sem, sEv, sLook, nbeq, i64_w, -List.getD_eq_getElem?_getD, e0_, Try.underlying24]) ?_
                    refine t_is (.int .i64 ((j2 : Nat) : Int)) rfl rfl rfl rfl (fun W_ hW_ F_ => rfl) ?_
                    refine t_is (.pointer (some (ad81.add (j2 * 76)))) rfl rfl rfl rfl (fun W_ hW_ F_ => (run_as (run_at_k (P := Try.prog) (e := 83) (sz := 76) (by kernel_rfl) (by kernel_rfl) j2 (by first | omega | decide) _))) ?_
                    refine t_is (.agg (earr (m.ents.getD j2 EL.zero))) rfl rfl rfl rfl (fun W_ hW_ F_ => (run_as (load_eel (x := (m.ents.getD j2 EL.zero)) (fun j u hj => cellOn (hc83 j u hj) (chain (Below.refl _ _) (below_of_drew hW_)))))) ?_
                    refine t_is (.pointer (some ⟨g7, 5, none⟩)) rfl rfl rfl rfl (fun W_ hW_ F_ => by simp [go_sem, sEv, sLook, nbeq, i64_w, -List.getD_eq_getElem?_getD, Try.underlying26]) ?_
                    refine t_is (.slice (some ad84) n.ents.length c8) rfl rfl rfl rfl (fun W_ hW_ F_ => by have eb_ := (hf78.on (below_of_drew hW_)); have e0_ := eb_.cellv (i := 5) (v := (.slice (some ad84) n.ents.length c8 : Value)) rfl; simp [go_sem, sEv, sLook, nbeq, i64_w, -List.getD_eq_getElem?_getD, e0_, Try.underlying24]) ?_
                    refine t_is (.int .i64 ((j2 : Nat) : Int)) rfl rfl rfl rfl (fun W_ hW_ F_ => rfl) ?_
                    refine t_is (.pointer (some (ad84.add (j2 * 76)))) rfl rfl rfl rfl (fun W_ hW_ F_ => (run_as (run_at_k (P := Try.prog) (e := 83) (sz := 76) (by kernel_rfl) (by kernel_rfl) j2 (by first | omega | decide) _))) ?_
                    refine t_is (.agg (earr (n.ents.getD j2 EL.zero))) rfl rfl rfl rfl (fun W_ hW_ F_ => (run_as (load_eel (x := (n.ents.getD j2 EL.zero)) (fun j u hj => cellOn (hc86 j u hj) (chain (Below.refl _ _) (below_of_drew hW_)))))) ?_
                    refine t_tail ?_
                    intro w87 hb88_ F89
                    have hb88 := below_of_drew hb88_
                    have hs_w87 := hb88.size
                    clear F89
                    refine rw_val (v := .bool (!(eqE (m.ents.getD j2 EL.zero) (n.ents.getD j2 EL.zero)))) (w' := w87) rfl rfl rfl rfl (run_as (guard_ne_entry _ _ _ _ _)) ?_
                    refine rw_end ?_
                    refine w_weaken (G' := [(2, .pointer (some ⟨g1, 0, none⟩)), (3, .pointer (some ⟨g7, 0, none⟩)), (7, .int .i64 ((j2 : Nat) : Int)), (107, .bool (!(eqE (m.ents.getD j2 EL.zero) (n.ents.getD j2 EL.zero))))]) ⟨rfl, rfl, rfl, rfl, trivial⟩ ?_
                    refine w_cond rfl rfl (fun cD => ?_) (fun cD => ?_)
                    · refine w_seq ?_
                      refine w_region ?_
                      refine rw_val (v := .bool false) (w' := w87) rfl rfl rfl rfl rfl ?_
                      refine rw_end ?_
                      refine w_ret (post_ret1 rfl rfl ?_)
                      exact ⟨_, rfl, no_iff (fun h_ => getD_ne (z := EL.zero) (j := j2) (fun e_ => by rw [e_] at cD; simp [eqE_self] at cD) ((same_iff m n).1 h_).2.2.2), (chain hB_L74 hb88)⟩
                    · refine w_skip ?_
                      refine w_blk ?_
                      refine w_region ?_
                      refine rw_val (v := .int .i64 ((j2 : Nat) : Int)) (w' := w87) rfl rfl rfl rfl rfl ?_
                      refine rw_val (v := .int .i64 ((j2 + 1 : Nat) : Int)) (w' := w87) rfl rfl rfl rfl (by simp [go_sem, sEv, sLook, nbeq, i64_w, -List.getD_eq_getElem?_getD]; exact wrap_id (by omega) (by omega)) ?_
                      refine rw_val (v := .int .i64 ((j2 + 1 : Nat) : Int)) (w' := w87) rfl rfl rfl rfl rfl ?_
                      refine rw_end ?_
                      exact w_back (m2_ - 1) [(2, .pointer (some ⟨g1, 0, none⟩)), (3, .pointer (some ⟨g7, 0, none⟩)), (7, .int .i64 ((j2 + 1 : Nat) : Int))] (by omega) ⟨rfl, rfl, rfl, trivial⟩ ⟨(j2 + 1), by omega, by omega, (chain hB_L74 hb88), (hf77.on hb88), (hf78.on hb88), (take_eq_step (z := EL.zero) (by omega) (by omega) hf79 ((eqE_iff _ _).1 (by simpa using cD))), rfl⟩
                  · have l90 : ¬ (((j2 : Nat) : Int) < ((m.ents.length : Nat) : Int)) := of_decide_eq_false cJ
                    refine w_exit rfl ?_
                    refine w_seq ?_
                    refine w_region ?_
                    refine rw_val (v := .bool true) (w' := w_L74) rfl rfl rfl rfl rfl ?_
                    refine rw_end ?_
                    refine w_ret (post_ret1 rfl rfl ?_)
                    exact ⟨_, rfl, yes_iff ((same_iff m n).2 ⟨⟨by omega, by omega, by omega⟩, heq1_, heq2_, take_eq_all (by omega) (by omega) hf79⟩), hB_L74⟩
          · have l91 : ¬ ((m.ops.length : Nat) : Int) = ((n.ops.length : Nat) : Int) := by simpa using c21
            refine rw_off (c := (((m.ops.length : Nat) : Int) != ((n.ops.length : Nat) : Int))) rfl rfl rfl (by first | (rw [c21]; rfl) | simp [c21]) rfl rfl ?_
            refine rw_off (c := (((m.ops.length : Nat) : Int) != ((n.ops.length : Nat) : Int))) rfl rfl rfl (by first | (rw [c21]; rfl) | simp [c21]) rfl rfl ?_
            refine rw_off (c := (((m.ops.length : Nat) : Int) != ((n.ops.length : Nat) : Int))) rfl rfl rfl (by first | (rw [c21]; rfl) | simp [c21]) rfl rfl ?_
            refine rw_off (c := (((m.ops.length : Nat) : Int) != ((n.ops.length : Nat) : Int))) rfl rfl rfl (by first | (rw [c21]; rfl) | simp [c21]) rfl rfl ?_
            refine rw_off (c := (((m.ops.length : Nat) : Int) != ((n.ops.length : Nat) : Int))) rfl rfl rfl (by first | (rw [c21]; rfl) | simp [c21]) rfl rfl ?_
            refine rw_off (c := (((m.ops.length : Nat) : Int) != ((n.ops.length : Nat) : Int))) rfl rfl rfl (by first | (rw [c21]; rfl) | simp [c21]) rfl rfl ?_
            refine rw_off (c := (((m.ops.length : Nat) : Int) != ((n.ops.length : Nat) : Int))) rfl rfl rfl (by first | (rw [c21]; rfl) | simp [c21]) rfl rfl ?_
            refine rw_val (v := .bool true) (w' := w8) rfl rfl rfl rfl (by first | (simp [go_sem, sEv, sLook, nbeq, i64_w, -List.getD_eq_getElem?_getD, c21]; done) | (rw [c21]; simp [go_sem, sEv, sLook, nbeq, i64_w, -List.getD_eq_getElem?_getD]; done) | (simp [go_sem, sEv, sLook, nbeq, i64_w, -List.getD_eq_getElem?_getD] <;> omega) | (simp [go_sem, sEv, sLook, nbeq, i64_w, -List.getD_eq_getElem?_getD]; intro h_; exact absurd (by omega) h_)) ?_
            refine rw_end ?_
            refine w_weaken (G' := [(2, .pointer (some ⟨g1, 0, none⟩)), (3, .pointer (some ⟨g7, 0, none⟩)), (4, .bool false), (53, .bool true)]) ⟨rfl, rfl, rfl, rfl, trivial⟩ ?_
            refine w_cond_t rfl rfl rfl ?_
            refine w_seq ?_
            refine w_region ?_
            refine rw_val (v := .bool false) (w' := w8) rfl rfl rfl rfl rfl ?_
            refine rw_end ?_
            refine w_ret (post_ret1 rfl rfl ?_)
            exact ⟨_, rfl, no_iff (fun h_ => by obtain ⟨⟨q1, q2, q3⟩, q4, q5, q6⟩ := (same_iff m n).1 h_; have q7 := congrArg List.length q4; have q8 := congrArg List.length q5; have q9 := congrArg List.length q6; omega), (chain hb3 hb9)⟩
        · have l92 : ¬ ((m.nums.length : Nat) : Int) = ((n.nums.length : Nat) : Int) := by simpa using c19
          refine rw_off (c := (((m.nums.length : Nat) : Int) != ((n.nums.length : Nat) : Int))) rfl rfl rfl (by first | (rw [c19]; rfl) | simp [c19]) rfl rfl ?_
          refine rw_off (c := (((m.nums.length : Nat) : Int) != ((n.nums.length : Nat) : Int))) rfl rfl rfl (by first | (rw [c19]; rfl) | simp [c19]) rfl rfl ?_
          refine rw_off (c := (((m.nums.length : Nat) : Int) != ((n.nums.length : Nat) : Int))) rfl rfl rfl (by first | (rw [c19]; rfl) | simp [c19]) rfl rfl ?_
          refine rw_off (c := (((m.nums.length : Nat) : Int) != ((n.nums.length : Nat) : Int))) rfl rfl rfl (by first | (rw [c19]; rfl) | simp [c19]) rfl rfl ?_
          refine rw_off (c := (((m.nums.length : Nat) : Int) != ((n.nums.length : Nat) : Int))) rfl rfl rfl (by first | (rw [c19]; rfl) | simp [c19]) rfl rfl ?_
          refine rw_off (c := (((m.nums.length : Nat) : Int) != ((n.nums.length : Nat) : Int))) rfl rfl rfl (by first | (rw [c19]; rfl) | simp [c19]) rfl rfl ?_
          refine rw_off (c := (((m.nums.length : Nat) : Int) != ((n.nums.length : Nat) : Int))) rfl rfl rfl (by first | (rw [c19]; rfl) | simp [c19]) rfl rfl ?_
          refine rw_val (v := .bool true) (w' := w8) rfl rfl rfl rfl (by first | (simp [go_sem, sEv, sLook, nbeq, i64_w, -List.getD_eq_getElem?_getD, c19]; done) | (rw [c19]; simp [go_sem, sEv, sLook, nbeq, i64_w, -List.getD_eq_getElem?_getD]; done) | (simp [go_sem, sEv, sLook, nbeq, i64_w, -List.getD_eq_getElem?_getD] <;> omega) | (simp [go_sem, sEv, sLook, nbeq, i64_w, -List.getD_eq_getElem?_getD]; intro h_; exact absurd (by omega) h_)) ?_
          refine rw_val (v := .bool true) (w' := w8) rfl rfl rfl rfl rfl ?_
          refine rw_off (c := true) rfl rfl rfl rfl rfl rfl ?_
          refine rw_off (c := true) rfl rfl rfl rfl rfl rfl ?_
          refine rw_off (c := true) rfl rfl rfl rfl rfl rfl ?_
          refine rw_off (c := true) rfl rfl rfl rfl rfl rfl ?_
          refine rw_off (c := true) rfl rfl rfl rfl rfl rfl ?_
          refine rw_off (c := true) rfl rfl rfl rfl rfl rfl ?_
          refine rw_off (c := true) rfl rfl rfl rfl rfl rfl ?_
          refine rw_val (v := .bool true) (w' := w8) rfl rfl rfl rfl (by simp [go_sem, sEv, sLook, nbeq, i64_w, -List.getD_eq_getElem?_getD]) ?_
          refine rw_end ?_
          refine w_weaken (G' := [(2, .pointer (some ⟨g1, 0, none⟩)), (3, .pointer (some ⟨g7, 0, none⟩)), (4, .bool false), (53, .bool true)]) ⟨rfl, rfl, rfl, rfl, trivial⟩ ?_
          refine w_cond_t rfl rfl rfl ?_
          refine w_seq ?_
          refine w_region ?_
          refine rw_val (v := .bool false) (w' := w8) rfl rfl rfl rfl rfl ?_
          refine rw_end ?_
          refine w_ret (post_ret1 rfl rfl ?_)
          exact ⟨_, rfl, no_iff (fun h_ => by obtain ⟨⟨q1, q2, q3⟩, q4, q5, q6⟩ := (same_iff m n).1 h_; have q7 := congrArg List.length q4; have q8 := congrArg List.length q5; have q9 := congrArg List.length q6; omega), (chain hb3 hb9)⟩
      · have l93 : ¬ m.tw = n.tw := by simpa using c17
        refine rw_off (c := (m.tw != n.tw)) rfl rfl rfl (by first | (rw [c17]; rfl) | simp [c17]) rfl rfl ?_
        refine rw_off (c := (m.tw != n.tw)) rfl rfl rfl (by first | (rw [c17]; rfl) | simp [c17]) rfl rfl ?_
        refine rw_off (c := (m.tw != n.tw)) rfl rfl rfl (by first | (rw [c17]; rfl) | simp [c17]) rfl rfl ?_
        refine rw_off (c := (m.tw != n.tw)) rfl rfl rfl (by first | (rw [c17]; rfl) | simp [c17]) rfl rfl ?_
        refine rw_off (c := (m.tw != n.tw)) rfl rfl rfl (by first | (rw [c17]; rfl) | simp [c17]) rfl rfl ?_
        refine rw_off (c := (m.tw != n.tw)) rfl rfl rfl (by first | (rw [c17]; rfl) | simp [c17]) rfl rfl ?_
        refine rw_off (c := (m.tw != n.tw)) rfl rfl rfl (by first | (rw [c17]; rfl) | simp [c17]) rfl rfl ?_
        refine rw_val (v := .bool true) (w' := w8) rfl rfl rfl rfl (by first | (simp [go_sem, sEv, sLook, nbeq, i64_w, -List.getD_eq_getElem?_getD, c17]; done) | (rw [c17]; simp [go_sem, sEv, sLook, nbeq, i64_w, -List.getD_eq_getElem?_getD]; done) | (simp [go_sem, sEv, sLook, nbeq, i64_w, -List.getD_eq_getElem?_getD] <;> omega) | (simp [go_sem, sEv, sLook, nbeq, i64_w, -List.getD_eq_getElem?_getD]; intro h_; exact absurd (by omega) h_)) ?_
        refine rw_val (v := .bool true) (w' := w8) rfl rfl rfl rfl rfl ?_
        refine rw_off (c := true) rfl rfl rfl rfl rfl rfl ?_
        refine rw_off (c := true) rfl rfl rfl rfl rfl rfl ?_
        refine rw_off (c := true) rfl rfl rfl rfl rfl rfl ?_
        refine rw_off (c := true) rfl rfl rfl rfl rfl rfl ?_
        refine rw_off (c := true) rfl rfl rfl rfl rfl rfl ?_
        refine rw_off (c := true) rfl rfl rfl rfl rfl rfl ?_
        refine rw_off (c := true) rfl rfl rfl rfl rfl rfl ?_
        refine rw_val (v := .bool true) (w' := w8) rfl rfl rfl rfl (by simp [go_sem, sEv, sLook, nbeq, i64_w, -List.getD_eq_getElem?_getD]) ?_
        refine rw_val (v := .bool true) (w' := w8) rfl rfl rfl rfl rfl ?_
        refine rw_off (c := true) rfl rfl rfl rfl rfl rfl ?_
        refine rw_off (c := true) rfl rfl rfl rfl rfl rfl ?_
        refine rw_off (c := true) rfl rfl rfl rfl rfl rfl ?_
        refine rw_off (c := true) rfl rfl rfl rfl rfl rfl ?_
        refine rw_off (c := true) rfl rfl rfl rfl rfl rfl ?_
        refine rw_off (c := true) rfl rfl rfl rfl rfl rfl ?_
        refine rw_off (c := true) rfl rfl rfl rfl rfl rfl ?_
        refine rw_val (v := .bool true) (w' := w8) rfl rfl rfl rfl (by simp [go_sem, sEv, sLook, nbeq, i64_w, -List.getD_eq_getElem?_getD]) ?_
        refine rw_end ?_
        refine w_weaken (G' := [(2, .pointer (some ⟨g1, 0, none⟩)), (3, .pointer (some ⟨g7, 0, none⟩)), (4, .bool false), (53, .bool true)]) ⟨rfl, rfl, rfl, rfl, trivial⟩ ?_
        refine w_cond_t rfl rfl rfl ?_
        refine w_seq ?_
        refine w_region ?_
        refine rw_val (v := .bool false) (w' := w8) rfl rfl rfl rfl rfl ?_
        refine rw_end ?_
        refine w_ret (post_ret1 rfl rfl ?_)
        exact ⟨_, rfl, no_iff (fun h_ => by obtain ⟨⟨q1, q2, q3⟩, q4, q5, q6⟩ := (same_iff m n).1 h_; have q7 := congrArg List.length q4; have q8 := congrArg List.length q5; have q9 := congrArg List.length q6; omega), (chain hb3 hb9)⟩
    · have l94 : ¬ m.fr = n.fr := by simpa using c15
      refine rw_off (c := (m.fr != n.fr)) rfl rfl rfl (by first | (rw [c15]; rfl) | simp [c15]) rfl rfl ?_
      refine rw_off (c := (m.fr != n.fr)) rfl rfl rfl (by first | (rw [c15]; rfl) | simp [c15]) rfl rfl ?_
      refine rw_off (c := (m.fr != n.fr)) rfl rfl rfl (by first | (rw [c15]; rfl) | simp [c15]) rfl rfl ?_
      refine rw_off (c := (m.fr != n.fr)) rfl rfl rfl (by first | (rw [c15]; rfl) | simp [c15]) rfl rfl ?_
      refine rw_off (c := (m.fr != n.fr)) rfl rfl rfl (by first | (rw [c15]; rfl) | simp [c15]) rfl rfl ?_
      refine rw_val (v := .bool true) (w' := w8) rfl rfl rfl rfl (by first | (simp [go_sem, sEv, sLook, nbeq, i64_w, -List.getD_eq_getElem?_getD, c15]; done) | (rw [c15]; simp [go_sem, sEv, sLook, nbeq, i64_w, -List.getD_eq_getElem?_getD]; done) | (simp [go_sem, sEv, sLook, nbeq, i64_w, -List.getD_eq_getElem?_getD] <;> omega) | (simp [go_sem, sEv, sLook, nbeq, i64_w, -List.getD_eq_getElem?_getD]; intro h_; exact absurd (by omega) h_)) ?_
      refine rw_val (v := .bool true) (w' := w8) rfl rfl rfl rfl rfl ?_
      refine rw_off (c := true) rfl rfl rfl rfl rfl rfl ?_
      refine rw_off (c := true) rfl rfl rfl rfl rfl rfl ?_
      refine rw_off (c := true) rfl rfl rfl rfl rfl rfl ?_
      refine rw_off (c := true) rfl rfl rfl rfl rfl rfl ?_
      refine rw_off (c := true) rfl rfl rfl rfl rfl rfl ?_
      refine rw_off (c := true) rfl rfl rfl rfl rfl rfl ?_
      refine rw_off (c := true) rfl rfl rfl rfl rfl rfl ?_
      refine rw_val (v := .bool true) (w' := w8) rfl rfl rfl rfl (by simp [go_sem, sEv, sLook, nbeq, i64_w, -List.getD_eq_getElem?_getD]) ?_
      refine rw_val (v := .bool true) (w' := w8) rfl rfl rfl rfl rfl ?_
      refine rw_off (c := true) rfl rfl rfl rfl rfl rfl ?_
      refine rw_off (c := true) rfl rfl rfl rfl rfl rfl ?_
      refine rw_off (c := true) rfl rfl rfl rfl rfl rfl ?_
      refine rw_off (c := true) rfl rfl rfl rfl rfl rfl ?_
      refine rw_off (c := true) rfl rfl rfl rfl rfl rfl ?_
      refine rw_off (c := true) rfl rfl rfl rfl rfl rfl ?_
      refine rw_off (c := true) rfl rfl rfl rfl rfl rfl ?_
      refine rw_val (v := .bool true) (w' := w8) rfl rfl rfl rfl (by simp [go_sem, sEv, sLook, nbeq, i64_w, -List.getD_eq_getElem?_getD]) ?_
      refine rw_val (v := .bool true) (w' := w8) rfl rfl rfl rfl rfl ?_
      refine rw_off (c := true) rfl rfl rfl rfl rfl rfl ?_
      refine rw_off (c := true) rfl rfl rfl rfl rfl rfl ?_
      refine rw_off (c := true) rfl rfl rfl rfl rfl rfl ?_
      refine rw_off (c := true) rfl rfl rfl rfl rfl rfl ?_
      refine rw_off (c := true) rfl rfl rfl rfl rfl rfl ?_
      refine rw_off (c := true) rfl rfl rfl rfl rfl rfl ?_
      refine rw_off (c := true) rfl rfl rfl rfl rfl rfl ?_
      refine rw_val (v := .bool true) (w' := w8) rfl rfl rfl rfl (by simp [go_sem, sEv, sLook, nbeq, i64_w, -List.getD_eq_getElem?_getD]) ?_
      refine rw_end ?_
      refine w_weaken (G' := [(2, .pointer (some ⟨g1, 0, none⟩)), (3, .pointer (some ⟨g7, 0, none⟩)), (4, .bool false), (53, .bool true)]) ⟨rfl, rfl, rfl, rfl, trivial⟩ ?_
      refine w_cond_t rfl rfl rfl ?_
      refine w_seq ?_
      refine w_region ?_
      refine rw_val (v := .bool false) (w' := w8) rfl rfl rfl rfl rfl ?_
      refine rw_end ?_
      refine w_ret (post_ret1 rfl rfl ?_)
      exact ⟨_, rfl, no_iff (fun h_ => by obtain ⟨⟨q1, q2, q3⟩, q4, q5, q6⟩ := (same_iff m n).1 h_; have q7 := congrArg List.length q4; have q8 := congrArg List.length q5; have q9 := congrArg List.length q6; omega), (chain hb3 hb9)⟩
  · have l95 : ¬ m.kind = n.kind := by simpa using c13
    refine rw_off (c := (m.kind != n.kind)) rfl rfl rfl (by first | (rw [c13]; rfl) | simp [c13]) rfl rfl ?_
    refine rw_off (c := (m.kind != n.kind)) rfl rfl rfl (by first | (rw [c13]; rfl) | simp [c13]) rfl rfl ?_
    refine rw_off (c := (m.kind != n.kind)) rfl rfl rfl (by first | (rw [c13]; rfl) | simp [c13]) rfl rfl ?_
    refine rw_off (c := (m.kind != n.kind)) rfl rfl rfl (by first | (rw [c13]; rfl) | simp [c13]) rfl rfl ?_
    refine rw_off (c := (m.kind != n.kind)) rfl rfl rfl (by first | (rw [c13]; rfl) | simp [c13]) rfl rfl ?_
    refine rw_val (v := .bool true) (w' := w8) rfl rfl rfl rfl (by first | (simp [go_sem, sEv, sLook, nbeq, i64_w, -List.getD_eq_getElem?_getD, c13]; done) | (rw [c13]; simp [go_sem, sEv, sLook, nbeq, i64_w, -List.getD_eq_getElem?_getD]; done) | (simp [go_sem, sEv, sLook, nbeq, i64_w, -List.getD_eq_getElem?_getD] <;> omega) | (simp [go_sem, sEv, sLook, nbeq, i64_w, -List.getD_eq_getElem?_getD]; intro h_; exact absurd (by omega) h_)) ?_
    refine rw_val (v := .bool true) (w' := w8) rfl rfl rfl rfl rfl ?_
    refine rw_off (c := true) rfl rfl rfl rfl rfl rfl ?_
    refine rw_off (c := true) rfl rfl rfl rfl rfl rfl ?_
    refine rw_off (c := true) rfl rfl rfl rfl rfl rfl ?_
    refine rw_off (c := true) rfl rfl rfl rfl rfl rfl ?_
    refine rw_off (c := true) rfl rfl rfl rfl rfl rfl ?_
    refine rw_val (v := .bool true) (w' := w8) rfl rfl rfl rfl (by simp [go_sem, sEv, sLook, nbeq, i64_w, -List.getD_eq_getElem?_getD]) ?_
    refine rw_val (v := .bool true) (w' := w8) rfl rfl rfl rfl rfl ?_
    refine rw_off (c := true) rfl rfl rfl rfl rfl rfl ?_
    refine rw_off (c := true) rfl rfl rfl rfl rfl rfl ?_
    refine rw_off (c := true) rfl rfl rfl rfl rfl rfl ?_
    refine rw_off (c := true) rfl rfl rfl rfl rfl rfl ?_
    refine rw_off (c := true) rfl rfl rfl rfl rfl rfl ?_
    refine rw_off (c := true) rfl rfl rfl rfl rfl rfl ?_
    refine rw_off (c := true) rfl rfl rfl rfl rfl rfl ?_
    refine rw_val (v := .bool true) (w' := w8) rfl rfl rfl rfl (by simp [go_sem, sEv, sLook, nbeq, i64_w, -List.getD_eq_getElem?_getD]) ?_
    refine rw_val (v := .bool true) (w' := w8) rfl rfl rfl rfl rfl ?_
    refine rw_off (c := true) rfl rfl rfl rfl rfl rfl ?_
    refine rw_off (c := true) rfl rfl rfl rfl rfl rfl ?_
    refine rw_off (c := true) rfl rfl rfl rfl rfl rfl ?_
    refine rw_off (c := true) rfl rfl rfl rfl rfl rfl ?_
    refine rw_off (c := true) rfl rfl rfl rfl rfl rfl ?_
    refine rw_off (c := true) rfl rfl rfl rfl rfl rfl ?_
    refine rw_off (c := true) rfl rfl rfl rfl rfl rfl ?_
    refine rw_val (v := .bool true) (w' := w8) rfl rfl rfl rfl (by simp [go_sem, sEv, sLook, nbeq, i64_w, -List.getD_eq_getElem?_getD]) ?_
    refine rw_val (v := .bool true) (w' := w8) rfl rfl rfl rfl rfl ?_
    refine rw_off (c := true) rfl rfl rfl rfl rfl rfl ?_
    refine rw_off (c := true) rfl rfl rfl rfl rfl rfl ?_
    refine rw_off (c := true) rfl rfl rfl rfl rfl rfl ?_
    refine rw_off (c := true) rfl rfl rfl rfl rfl rfl ?_
    refine rw_off (c := true) rfl rfl rfl rfl rfl rfl ?_
    refine rw_off (c := true) rfl rfl rfl rfl rfl rfl ?_
    refine rw_off (c := true) rfl rfl rfl rfl rfl rfl ?_
    refine rw_val (v := .bool true) (w' := w8) rfl rfl rfl rfl (by simp [go_sem, sEv, sLook, nbeq, i64_w, -List.getD_eq_getElem?_getD]) ?_
    refine rw_end ?_
    refine w_weaken (G' := [(2, .pointer (some ⟨g1, 0, none⟩)), (3, .pointer (some ⟨g7, 0, none⟩)), (4, .bool false), (53, .bool true)]) ⟨rfl, rfl, rfl, rfl, trivial⟩ ?_
    refine w_cond_t rfl rfl rfl ?_
    refine w_seq ?_
    refine w_region ?_
    refine rw_val (v := .bool false) (w' := w8) rfl rfl rfl rfl rfl ?_
    refine rw_end ?_
    refine w_ret (post_ret1 rfl rfl ?_)
    exact ⟨_, rfl, no_iff (fun h_ => by obtain ⟨⟨q1, q2, q3⟩, q4, q5, q6⟩ := (same_iff m n).1 h_; have q7 := congrArg List.length q4; have q8 := congrArg List.length q5; have q9 := congrArg List.length q6; omega), (chain hb3 hb9)⟩
end Go.Proofs.Ytbbhdohjhipalaa.Ce
end
section
namespace Go.Proofs.Ytbbhdohjhipalaa.Ce
open Go.RowKit Go.Proofs.YtbbhdohjhipalaaW.PrintWords Go.Proofs.YtbbhdohjhipalaaW.PrintLast Go.Proofs.YtbbhdohjhipalaaW.PrintMore
open Go.Proofs.Ytbbhdohjhipalaa.Flow Go.Proofs.Ytbbhdohjhipalaa.PNoteReads
set_option linter.unusedVariables false
theorem small_sz : ∀ k : Fin 65, szN (tn ((k.val : Nat) : Int)) ≤ 1 := by decide +kernel
theorem small_num (k : Nat) (h : k < 65) : (numB (k : Int)).length ≤ 2 := by
  have h1 := small_sz ⟨k, h⟩
  have h2 := numB_len (k : Int)
  simp only at h1
  omega
theorem PB_app (a b : List Int) : PB (a ++ b) = PB a ++ PB b := by unfold PB; simp
theorem one_len {y : Int} (h : I64 y) : (numB y).length ≤ 9 := by
  have h1 := szN_le (tn_lt h)
  have h2 := numB_len y
  omega
theorem pr_bytes (h : Fin 65 → Int) : ∀ k, k ≤ 65 → (∀ y ∈ flatP (pr h k), I64 y) → (PB (flatP (pr h k))).length ≤ 11 * k
  | 0, _, _ => by simp [pr, flatP, PB]
  | k + 1, hk, hI => by
    rw [pr] at hI ⊢
    split
    · rename_i e
      rw [if_pos e] at hI
      have := pr_bytes h k (by omega) hI
      omega
    · rename_i e
      rw [if_neg e, flatP_append] at hI
      have h1 := pr_bytes h k (by omega) (fun y hy => hI y (List.mem_append_left _ hy))
      have h2 := small_num k (by omega)
      have h3 := one_len (hI (atF h k) (List.mem_append_right _ (by simp [flatP])))
      rw [flatP_append, PB_app, List.length_append]
      have e2 : PB (flatP [(((k : Nat) : Int), atF h k)]) = numB (k : Int) ++ (numB (atF h k) ++ []) := rfl
      rw [e2]
      simp only [List.length_append, List.length_nil]
      omega
theorem entL_bytes (x : EL) (hI : ∀ y ∈ entL x, I64 y) : (PB (entL x)).length ≤ 823 := by
  have e : entL x = ([x.win, x.key] ++ headC x.c ((pr x.c.h 65).length : Int)) ++ flatP (pr x.c.h 65) := by
    unfold entL numsC
    rw [List.append_assoc]
  rw [e] at hI ⊢
  have h1 := PB_len _ (fun y hy => hI y (List.mem_append_left _ hy))
  have h2 := pr_bytes x.c.h 65 (Nat.le_refl _) (fun y hy => hI y (List.mem_append_right _ hy))
  have h3 : ([x.win, x.key] ++ headC x.c ((pr x.c.h 65).length : Int)).length = 12 := rfl
  rw [PB_app, List.length_append]
  omega
theorem entsL_bytes : ∀ l : List EL, (∀ y ∈ entsL l, I64 y) → (PB (entsL l)).length ≤ 823 * l.length
  | [], _ => by simp [entsL, PB]
  | x :: l, hI => by
    have e : entsL (x :: l) = entL x ++ entsL l := rfl
    rw [e] at hI ⊢
    have h1 := entL_bytes x (fun y hy => hI y (List.mem_append_left _ hy))
    have h2 := entsL_bytes l (fun y hy => hI y (List.mem_append_right _ hy))
    rw [PB_app, List.length_append, List.length_cons]
    omega
theorem good_bytes {n : NT} (hg : goodN n = true) (hI : ∀ y ∈ listN n, I64 y) : (PB (listN n)).length ≤ 16376 := by
  have hs : shapeK n.kind ≠ none := fun e => by rw [good_no e] at hg; cases hg
  rcases e : shapeK n.kind with _ | ⟨a, b, c⟩
  · exact absurd e hs
  · obtain ⟨⟨_, _, _, _, _, h6, _, h8, h9, h10, h11⟩, _⟩ := (good_iff e).1 hg
    have hb : b ≤ 39 ∧ (n.kind = 8 → b = 6) := by
      unfold shapeK at e
      repeat' split at e
      all_goals first | (cases e; refine ⟨by omega, fun q => ?_⟩; omega) | cases e
    have eL : listN n = ((((([n.kind, n.fr, n.tw, (n.nums.length : Int)] ++ n.nums) ++ [(n.ops.length : Int)]) ++ opsL n.ops) ++ [(n.ents.length : Int)]) ++ entsL n.ents) := rfl
    rw [eL] at hI ⊢
    have h1 := PB_len _ (fun y hy => hI y (List.mem_append_left _ hy))
    have h2 := entsL_bytes n.ents (fun y hy => hI y (List.mem_append_right _ hy))
    have h3 := opsL_len n.ops
    rw [PB_app, List.length_append]
    simp only [List.length_append, List.length_cons, List.length_nil, h3] at h1
    rcases h11 with h11 | h11
    · omega
    · have hb6 := hb.2 h11
      rcases h9 with h9 | h9
      · omega
      · rw [h11] at h9
        cases h9
end Go.Proofs.Ytbbhdohjhipalaa.Ce
end
section
namespace Go.Proofs.Ytbbhdohjhipalaa.Ce
open Go.RowKit Go.Proofs.YtbbhdohjhipalaaW.PrintWords Go.Proofs.YtbbhdohjhipalaaW.PrintLast Go.Proofs.YtbbhdohjhipalaaW.PrintMore
open Go.Proofs.Ytbbhdohjhipalaa.Flow Go.Proofs.Ytbbhdohjhipalaa.PNoteReads
set_option linter.unusedVariables false
set_option linter.unusedSimpArgs false
def CellI (c : CL) : Prop := LoOk c ∧ (I64 c.cnt ∧ I64 c.hi ∧ I64 c.mn ∧ I64 c.mx ∧ I64 c.t ∧ I64 c.src ∧ I64 c.seq ∧ I64 c.v) ∧ ∀ i, I64 (c.h i)
def EntI (x : EL) : Prop := I64 x.win ∧ I64 x.key ∧ CellI x.c
def OpI (o : OpL) : Prop := I64 o.1 ∧ I64 o.2.1 ∧ I64 o.2.2.1 ∧ I64 o.2.2.2.1 ∧ I64 o.2.2.2.2
def NoteI (n : NT) : Prop := (I64 n.kind ∧ I64 n.fr ∧ I64 n.tw) ∧ (∀ y ∈ n.nums, I64 y) ∧ (∀ o ∈ n.ops, OpI o) ∧ (∀ x ∈ n.ents, EntI x)
theorem atF_I {h : Fin 65 → Int} (hh : ∀ i, I64 (h i)) (k : Nat) : I64 (atF h k) := by
  unfold atF
  split
  · exact hh _
  · exact ⟨by decide, by decide⟩
theorem I64_nat {k : Nat} (h : k ≤ 1000000) : I64 ((k : Nat) : Int) := ⟨by omega, by omega⟩
theorem pr_I {h : Fin 65 → Int} (hh : ∀ i, I64 (h i)) : ∀ k, k ≤ 65 → ∀ y ∈ flatP (pr h k), I64 y
  | 0, _ => fun y hy => by simp [pr, flatP] at hy
  | k + 1, hk => fun y hy => by
    by_cases e : atF h k = 0
    · rw [pr_zero h k e] at hy
      exact pr_I hh k (by omega) y hy
    · rw [pr_more h k e, flatP_append] at hy
      rcases List.mem_append.1 hy with hy | hy
      · exact pr_I hh k (by omega) y hy
      · simp only [flatP, List.mem_cons, List.not_mem_nil, or_false] at hy
        rcases hy with rfl | rfl
        · exact I64_nat (by omega)
        · exact atF_I hh k
theorem wrap_I (x : Int) : I64 (wrap64 x) := by
  unfold I64 wrap64
  omega
theorem numsC_I {c : CL} (h : CellI c) : ∀ y ∈ numsC c, I64 y := by
  obtain ⟨_, ⟨h0, h1, h2, h3, h4, h5, h6, h7⟩, h8⟩ := h
  have hp := pr_len c.h 65
  intro y hy
  unfold numsC headC at hy
  rcases List.mem_append.1 hy with hy | hy
  · simp only [List.mem_cons, List.not_mem_nil, or_false] at hy
    rcases hy with rfl | rfl | rfl | rfl | rfl | rfl | rfl | rfl | rfl | rfl
    · exact h0
    · exact h1
    · exact wrap_I _
    · exact h2
    · exact h3
    · exact h4
    · exact h5
    · exact h6
    · exact h7
    · exact I64_nat (by omega)
  · exact pr_I h8 65 (Nat.le_refl _) y hy
theorem listN_I {n : NT} (h : NoteI n) (hl : n.nums.length + n.ops.length + n.ents.length ≤ 1000) : ∀ y ∈ listN n, I64 y := by
  obtain ⟨⟨h1, h2, h3⟩, h4, h5, h6⟩ := h
  intro y hy
  unfold listN at hy
  rcases List.mem_append.1 hy with hy | hy
  · rcases List.mem_append.1 hy with hy | hy
    · rcases List.mem_append.1 hy with hy | hy
      · rcases List.mem_append.1 hy with hy | hy
        · rcases List.mem_append.1 hy with hy | hy
          · simp only [List.mem_cons, List.not_mem_nil, or_false] at hy
            rcases hy with rfl | rfl | rfl | rfl
            · exact h1
            · exact h2
            · exact h3
            · exact I64_nat (by omega)
          · exact h4 y hy
        · rw [List.mem_singleton.1 hy]
          exact I64_nat (by omega)
      · unfold opsL at hy
        rw [List.mem_flatten] at hy
        obtain ⟨l, hl, hy⟩ := hy
        rw [List.mem_map] at hl
        obtain ⟨o, ho, rfl⟩ := hl
        obtain ⟨q1, q2, q3, q4, q5⟩ := h5 o ho
        simp only [opL, List.mem_cons, List.not_mem_nil, or_false] at hy
        rcases hy with rfl | rfl | rfl | rfl | rfl <;> assumption
    · rw [List.mem_singleton.1 hy]
      exact I64_nat (by omega)
  · unfold entsL at hy
    rw [List.mem_flatten] at hy
    obtain ⟨l, hl, hy⟩ := hy
    rw [List.mem_map] at hl
    obtain ⟨x, hx, rfl⟩ := hl
    obtain ⟨q1, q2, q3⟩ := h6 x hx
    unfold entL at hy
    rcases List.mem_append.1 hy with hy | hy
    · simp only [List.mem_cons, List.not_mem_nil, or_false] at hy
      rcases hy with rfl | rfl
      · exact q1
      · exact q2
    · exact numsC_I q3 y hy
theorem opn_histI {H : Type} {enc : TypeId × Value → H} {W : World} : Opn enc Try.prog W 79 kHist (fun f => ∀ i, I64 (f i)) := fun m cs y h => by
  obtain ⟨xs, n, _, _, hcl, hxl, hg⟩ := DataW.trod_array Try.underlying79 h
  have hc3 : Try.prog.cellsOf 3 = 1 := by kernel_rfl
  have hcH : Try.prog.cellsOf 79 = 65 := by kernel_rfl
  have each : ∀ i : Fin 65, ∃ x : Int, cs[i.val]? = some (.int .i64 x) ∧ I64 x := fun i => by
    have h1 := hg i.val i.isLt
    have hi : i.val < xs.length := by rw [hxl]; exact i.isLt
    rw [List.getElem?_eq_getElem hi] at h1
    obtain ⟨x, hx, hw⟩ := opn_int (enc := enc) (W := W) Try.underlying3 _ _ _ h1
    have hx' : (cs.drop (i.val * 1)).take 1 = [.int .i64 x] := by rw [hc3] at hx; exact hx
    refine ⟨x, ?_, bounds_i64 hw⟩
    have h2 : ((cs.drop (i.val * 1)).take 1)[0]? = some (.int .i64 x) := by rw [hx']; rfl
    rw [List.getElem?_take_of_lt (by omega), List.getElem?_drop, Nat.mul_one, Nat.add_zero] at h2
    exact h2
  obtain ⟨f, hf⟩ := Classical.skolem.1 each
  refine ⟨f, ?_, fun i => (hf i).2⟩
  show cs = encH f
  apply List.ext_getElem?
  intro j
  by_cases hj : j < 65
  · rw [encH_get f j hj]
    exact (hf ⟨j, hj⟩).1
  · rw [List.getElem?_eq_none (by rw [hcl, hcH]; omega), List.getElem?_eq_none (by rw [encH_len]; omega)]
theorem enc_ok {n : NT} (hg : goodN n = true) (hI : ∀ y ∈ listN n, I64 y) : EE n = none ∧ (PB (listN n)).length ≤ 16376 := by
  have h := good_bytes hg hI
  refine ⟨?_, h⟩
  rw [(eb_yes hg).2]
  unfold PNoteReads.frameE
  rw [if_neg (by omega)]
end Go.Proofs.Ytbbhdohjhipalaa.Ce
end
section
namespace Go.Proofs.Ytbbhdohjhipalaa.Ce
open Go.RowKit Go.Proofs.YtbbhdohjhipalaaW.PrintWords Go.Proofs.YtbbhdohjhipalaaW.PrintLast Go.Proofs.YtbbhdohjhipalaaW.PrintMore
open Go.Proofs.Ytbbhdohjhipalaa.Flow
open Go.Proofs.Ytbbhdohjhipalaa.PNoteReads
set_option linter.unusedVariables false
set_option linter.unusedSimpArgs false
theorem rsame_self (w : World) (n : NT) (A3 : Option Addr) (c3 : Nat) (A4 : Option Addr) (c4 : Nat) (A5 : Option Addr) (c5 : Nat) (hn3 : (Kd.int .i64).C w A3 n.nums.length n.nums) (hc3 : n.nums.length ≤ c3) (hk3 : n.nums.length ≤ 140737488355328) (hn4 : kOp.C w A4 n.ops.length n.ops) (hc4 : n.ops.length ≤ c4) (hk4 : n.ops.length ≤ 140737488355328) (hn5 : kEntry.C w A5 n.ents.length n.ents) (hc5 : n.ents.length ≤ c5) (hk5 : n.ents.length ≤ 140737488355328) (A6 : Option Addr) (c6 : Nat) (A7 : Option Addr) (c7 : Nat) (A8 : Option Addr) (c8 : Nat) (hn6 : (Kd.int .i64).C w A6 n.nums.length n.nums) (hc6 : n.nums.length ≤ c6) (hk6 : n.nums.length ≤ 140737488355328) (hn7 : kOp.C w A7 n.ops.length n.ops) (hc7 : n.ops.length ≤ c7) (hk7 : n.ops.length ≤ 140737488355328) (hn8 : kEntry.C w A8 n.ents.length n.ents) (hc8 : n.ents.length ≤ c8) (hk8 : n.ents.length ≤ 140737488355328) : Calls Try.prog 17 #[.agg #[.int .i64 n.kind, .int .i64 n.fr, .int .i64 n.tw, .slice A3 n.nums.length c3, .slice A4 n.ops.length c4, .slice A5 n.ents.length c5], .agg #[.int .i64 n.kind, .int .i64 n.fr, .int .i64 n.tw, .slice A6 n.nums.length c6, .slice A7 n.ops.length c7, .slice A8 n.ents.length c8]] w fun e w' => e = .returned (.bool true) ∧ Below w.heap.size w w' := by
  refine (rsame_calls w n n A3 c3 A4 c4 A5 c5 hn3 hc3 hk3 hn4 hc4 hk4 hn5 hc5 hk5 A6 c6 A7 c7 A8 c8 hn6 hc6 hk6 hn7 hc7 hk7 hn8 hc8 hk8).mono ?_
  rintro e w' ⟨bb, rfl, hi, hb⟩
  exact ⟨by rw [hi.2 rfl], hb⟩
end Go.Proofs.Ytbbhdohjhipalaa.Ce
end
section
namespace Go.Proofs.Ytbbhdohjhipalaa.Ce
open Go.RowKit Go.Proofs.YtbbhdohjhipalaaW.PrintWords Go.Proofs.YtbbhdohjhipalaaW.PrintLast Go.Proofs.YtbbhdohjhipalaaW.PrintMore
open Go.Proofs.Ytbbhdohjhipalaa.Flow
set_option linter.unusedVariables false
set_option linter.unusedSimpArgs false
def SpPre (B m k : Nat) (xs : List Value) : Flow.Spec where
  s v w := ∃ g cs, v = .slice (some ⟨g, 0, none⟩) k m ∧ B ≤ g ∧ w.heap[g]? = some (.cells cs 3 (0, 0)) ∧ cs.size = m ∧ cs.toList.take k = xs
  pl v := ∃ g, v = .slice (some ⟨g, 0, none⟩) k m ∧ B ≤ g
  stab := fun v w w' hb ⟨g, cs, h1, h2, h3, h4, h5⟩ => ⟨g, cs, h1, h2, (hb.block g (Array.getElem?_eq_some_iff.1 h3).1).trans h3, h4, h5⟩
  imp := fun v w ⟨g, cs, h1, h2, _⟩ => ⟨g, h1, h2⟩
  inh := ⟨.slice (some ⟨B, 0, none⟩) k m, B, rfl, Nat.le_refl _⟩
def WrAt (B m p : Nat) (ys : List Value) (w w' : World) : Prop := ∃ g cs, B ≤ g ∧ w.heap[g]? = some (.cells cs 3 (0, 0)) ∧ cs.size = m ∧ w'.heap[g]? = some (.cells (cs.toList.take p ++ ys ++ cs.toList.drop (p + ys.length)).toArray 3 (0, 0)) ∧ ∀ q, q ≠ g → q < w.heap.size → w'.heap[q]? = w.heap[q]?
theorem pre_stab {B m k p : Nat} {xs ys : List Value} {v : Value} {w w' : World} (h : (SpPre B m k xs).s v w) (hw : WrAt B m p ys w w') (hm : p + ys.length ≤ m) (hx : k ≤ p) : (SpPre B m k xs).s v w' := by
  obtain ⟨g, cs, h1, h2, h3, h4, h5⟩ := h
  obtain ⟨g2, cs2, k1, k2, k3, k4, k5⟩ := hw
  by_cases e : g = g2
  · subst e
    rw [h3] at k2
    injection k2 with k2
    injection k2 with k2
    subst k2
    refine ⟨g, _, h1, h2, k4, ?_, ?_⟩
    · have : cs.toList.length = m := by simpa using h4
      simp only [List.size_toArray, List.length_append, List.length_take, List.length_drop]
      omega
    · have : cs.toList.length = m := by simpa using h4
      show (cs.toList.take p ++ ys ++ cs.toList.drop (p + ys.length)).take k = xs
      rw [List.append_assoc, List.take_append_of_le_length (by rw [List.length_take]; omega), List.take_take, Nat.min_eq_left hx]
      exact h5
  · exact ⟨g, cs, h1, h2, (k5 g e (Array.getElem?_eq_some_iff.1 h3).1).trans h3, h4, h5⟩
theorem lit_stab {B m p : Nat} {x : Value} {ys : List Value} {v : Value} {w w' : World} (h : (SlcSpec B 3 #[x] 1).s v w) (hw : WrAt B m p ys w w') (hm : m = 1 → p = 0 ∧ (ys = [] ∨ ys = [x])) : (SlcSpec B 3 #[x] 1).s v w' := by
  obtain ⟨g, h1, h2, h3⟩ := h
  have h3 : w.heap[g]? = some (.cells #[x] 3 (0, 0)) := h3
  obtain ⟨g2, cs2, k1, k2, k3, k4, k5⟩ := hw
  refine ⟨g, h1, h2, ?_⟩
  show w'.heap[g]? = some (.cells #[x] 3 (0, 0))
  by_cases e : g = g2
  · subst e
    rw [h3] at k2
    injection k2 with k2
    injection k2 with k2
    subst k2
    obtain ⟨rfl, e | e⟩ := hm (by rw [← k3]; rfl)
    · subst e
      exact k4
    · subst e
      exact k4
  · exact (k5 g e (Array.getElem?_eq_some_iff.1 h3).1).trans h3
theorem mk_gives {P : Program} {o : Oper} {G : Env} {w : World} (B m : Nat) (cs : Array Value) (hB : B ≤ w.heap.size) (hcs : cs.size = m)
    (hrun : (execOp (sEv G) o).run P w = .ok (.value (.slice (some ⟨w.heap.size, 0, none⟩) 0 m)) (w.alloc (.cells cs 3))) :
    ∃ v w', (execOp (sEv G) o).run P w = .ok (.value v) w' ∧ (SpPre B m 0 []).s v w' ∧ Below w.heap.size w w' :=
  ⟨_, _, hrun, ⟨w.heap.size, cs, rfl, hB, Blk.alloc_new _ _ _, hcs, by simp⟩, below_alloc (Below.refl _ _) _⟩
theorem app_pre {o : Oper} {G : Env} {w : World} {s x : Operand} {v : Value} (B m k j k2 : Nat) (xs news : List Value) {A : Option Addr} {c : Nat} (ho : o.op = .call { callee := .builtin .append, args := #[s, x], argTypes := #[22, 22] })
    (hs : sEv G s = v) (hv : (SpPre B m k xs).s v w) (hx : sEv G x = .slice A j c) (hj : news.length = j) (hk2 : k + j = k2) (hn : 0 < j → ∃ a, A = some a ∧ ∀ j u, news[j]? = some u → w.cell? (a.add j) = some u) (h1 : ∀ u ∈ news, u.oneCell' = true) (hroom : k2 ≤ m) :
    ∃ v' w', (execOp (sEv G) o).run Try.prog w = .ok (.value v') w' ∧ (SpPre B m k2 (xs ++ news)).s v' w' ∧ Kept w w' (fun q => B ≤ q) ∧ QT w w' ∧ WrAt B m k news w w' := by
  obtain ⟨g, cs, rfl, h2, h3, h4, h5⟩ := hv
  have hl : cs.toList.length = m := by simpa using h4
  subst hk2
  subst hj
  obtain ⟨i, hi, hi1⟩ := Option.map_eq_some_iff.1 (show (Try.prog.info? 3).map (fun i => i.size) = some 1 by kernel_rfl)
  have hrun : (Builtin.append_ #[22, 22] o.type #[.slice (some ⟨g, 0, none⟩) k m, .slice A news.length c]).run Try.prog w = .ok (.slice (some ⟨g, 0, none⟩) (k + news.length) m) (w.setRow g (cs.toList.take k ++ news ++ cs.toList.drop (k + news.length)).toArray) := by
    rcases Nat.eq_zero_or_pos news.length with h0 | h0
    · have e := List.length_eq_zero_iff.1 h0
      subst e
      have e2 : (cs.toList.take k ++ ([] : List Value) ++ cs.toList.drop (k + ([] : List Value).length)).toArray = cs := by simp
      rw [e2, setRow_self w g cs 3 (0, 0) h3]
      have hsr : Src Try.prog i.size 22 (.slice A 0 c) 0 [] w := by
        cases A with
        | none => exact Src.ofNil (e' := 3) w (by kernel_rfl) c
        | some a => exact Src.ofSlice (e' := 3) w (by kernel_rfl) a 0 c [] (by simp) (fun j v hj => by simp at hj) (fun u hu => by cases hu)
      exact run_append_nothing (P := Try.prog) w 22 22 o.type 3 i (by kernel_rfl) hi (some ⟨g, 0, none⟩) k m (by omega) (.slice A 0 c) hsr
    · obtain ⟨a, rfl, ha⟩ := hn h0
      have h9 := run_append_room (P := Try.prog) w 22 o.type 3 i (by kernel_rfl) hi g k m cs h3 a news.length c news (by rw [hi1]; omega) ha h1 hroom (by rw [hi1]; simp only [Array.length_toList] at hl; omega)
      rw [hi1, Nat.mul_one] at h9
      exact h9
  have hxl : xs.length = k := by rw [← h5, List.length_take]; omega
  refine ⟨.slice (some ⟨g, 0, none⟩) (k + news.length) m, _, ?_, ⟨g, _, rfl, h2, setRow_heap w g cs _ 3 _ h3, ?_, ?_⟩, ⟨by simp [World.setRow], fun q hq hn => ?_⟩, ⟨rfl, rfl, rfl⟩, ⟨g, cs, h2, h3, h4, setRow_heap w g cs _ 3 _ h3, fun q hq _ => setRow_other w g q _ hq⟩⟩
  · unfold execOp
    simp only [ho, resolve, invoke, builtin, Sem.run_bind, Sem.run_pure, Result.andThen_ok, List.map_toArray, List.map_cons, List.map_nil, hs, hx, hrun]
  · simp only [List.size_toArray, List.length_append, List.length_take, List.length_drop]
    omega
  · show (cs.toList.take k ++ news ++ cs.toList.drop (k + news.length)).take (k + news.length) = xs ++ news
    rw [h5, List.take_left' (by rw [List.length_append, hxl])]
  · exact setRow_other w g q _ (fun e => hn (by rw [e]; exact h2))
theorem app_go {o : Oper} {G : Env} {w0 W : World} {S : Flow.Spec} {B m k : Nat} {news : List Value} (h : ∃ v' w', (execOp (sEv G) o).run Try.prog W = .ok (.value v') w' ∧ S.s v' w' ∧ Kept W w' (fun q => B ≤ q) ∧ QT W w' ∧ WrAt B m k news W w') (h0 : Below w0.heap.size w0 W) (hB : w0.heap.size ≤ B) :
    ∃ v' w', (execOp (sEv G) o).run Try.prog W = .ok (.value v') w' ∧ S.s v' w' ∧ Kept W w' (fun q => B ≤ q) ∧ Below w0.heap.size w0 w' ∧ QT W w' ∧ WrAt B m k news W w' := by
  obtain ⟨v', w', h1, h2, h3, h4, h5⟩ := h
  exact ⟨v', w', h1, h2, h3, below_k h0 h3 h4 (fun q hq => Nat.le_trans hB hq), h4, h5⟩
theorem make_big {w : World} (c : Nat) (hb : c * 8 ≤ 281474976710656) : (Instr.makeSlice 22 (.int .i64 0) (.int .i64 ((c : Nat) : Int))).run Try.prog w = .ok (.slice (some ⟨w.heap.size, 0, none⟩) 0 c) (w.alloc (.cells (madeCells #[.int .i64 0] c) 3)) := by
  obtain ⟨i, hi, hz⟩ := Option.map_eq_some_iff.1 (show (Try.prog.info? 3).map (fun i => (i.zero, i.size, i.bytes)) = some (some (.int .i64 0), 1, 8) by kernel_rfl)
  simp only [Prod.mk.injEq] at hz
  obtain ⟨h0, h1, h2⟩ := hz
  have h := run_make (P := Try.prog) w 22 3 i (.int .i64 0) (by kernel_rfl) hi h0 .i64 .i64 0 (c : Int) (by omega) (by omega) (by rw [h2]; omega) (by omega)
  simp only [Int.toNat_natCast, h1, Nat.mul_one] at h
  exact h
theorem made_sz (c : Nat) : (madeCells #[Value.int .i64 0] c).size = c := by
  rw [← Array.length_toList, toList_madeCells_one]
  simp
theorem ints_cells {w : World} {A : Option Addr} {n : Nat} {xs : List Int} (h : (Kd.int .i64).C w A n xs) (hp : 0 < n) : ∃ ad, A = some ad ∧ ∀ j v, (xs.map (Value.int .i64))[j]? = some v → w.cell? (ad.add j) = some v := by
  obtain ⟨ad, rfl, hc⟩ := h.2.2 hp
  refine ⟨ad, rfl, fun j v hj => ?_⟩
  rw [List.getElem?_map] at hj
  cases hx : xs[j]? with
  | none => rw [hx] at hj; cases hj
  | some x =>
    rw [hx] at hj
    obtain ⟨c, _, hr, h2⟩ := hc j x hx
    have e1 : c = [Value.int .i64 x] := hr
    subst e1
    have h3 := h2 0 _ rfl
    have e2 : j * (Kd.int .i64).sz + 0 = j := by show j * 1 + 0 = j; omega
    rw [e2] at h3
    rw [h3]
    simpa using hj
theorem pre_blk {B m : Nat} {xs : List Int} {g : Nat} {w : World} (h : (SpPre B m m (xs.map (Value.int .i64))).s (.slice (some ⟨g, 0, none⟩) m m) w) : B ≤ g ∧ Blk w g 3 (xs.map (Value.int .i64)).toArray := by
  obtain ⟨g2, cs, h1, h2, h3, h4, h5⟩ := h
  injection h1 with h1
  injection h1 with h1
  injection h1 with h1
  subst h1
  refine ⟨h2, ?_⟩
  show w.heap[g]? = some (.cells (xs.map (Value.int .i64)).toArray 3 (0, 0))
  rw [← h5, List.take_of_length_le (by simp; omega), Array.toArray_toList]
  exact h3
end Go.Proofs.Ytbbhdohjhipalaa.Ce
end
section
namespace Go.Proofs.Ytbbhdohjhipalaa.Ce
open Go.RowKit Go.Proofs.YtbbhdohjhipalaaW.PrintWords Go.Proofs.YtbbhdohjhipalaaW.PrintLast Go.Proofs.YtbbhdohjhipalaaW.PrintMore
open Go.Proofs.Ytbbhdohjhipalaa.Flow
set_option linter.unusedVariables false
set_option linter.unusedSimpArgs false
set_option maxHeartbeats 4000000 in
theorem copied_calls (w : World) (n : NT) (A3 : Option Addr) (c3 : Nat) (A4 : Option Addr) (c4 : Nat) (A5 : Option Addr) (c5 : Nat) (hn3 : (Kd.int .i64).C w A3 n.nums.length n.nums) (hc3 : n.nums.length ≤ c3) (hn4 : kOp.C w A4 n.ops.length n.ops) (hc4 : n.ops.length ≤ c4) (hn5 : kEntry.C w A5 n.ents.length n.ents) (hc5 : n.ents.length ≤ c5) (hk3 : n.nums.length * 8 ≤ 140737488351232) (hk4 : n.ops.length * 40 ≤ 140737488351232) (hk5 : n.ents.length * 608 ≤ 140737488351232) :
    Calls Try.prog 11 #[.agg #[.int .i64 n.kind, .int .i64 n.fr, .int .i64 n.tw, .slice A3 n.nums.length c3, .slice A4 n.ops.length c4, .slice A5 n.ents.length c5]] w fun e w' => ∃ A3' c3' A4' c4' A5' c5', e = .returned (.agg #[.int .i64 n.kind, .int .i64 n.fr, .int .i64 n.tw, .slice A3' n.nums.length c3', .slice A4' n.ops.length c4', .slice A5' n.ents.length c5']) ∧ OwnK (Kd.int .i64) 3 w' w.heap.size w.heap.size A3' (n.nums.length + 1) c3' (n.nums ++ [(-77)]) ∧ OwnK kOp 73 w' w.heap.size w.heap.size A4' n.ops.length c4' n.ops ∧ OwnK kEntry 83 w' w.heap.size w.heap.size A5' n.ents.length c5' n.ents ∧ Below w.heap.size w w' := by
  refine calls_flow Try.func11 rfl 29 rfl (Nat.le_of_ble_eq_true rfl) [(0, .agg #[.int .i64 n.kind, .int .i64 n.fr, .int .i64 n.tw, .slice A3 n.nums.length c3, .slice A4 n.ops.length c4, .slice A5 n.ents.length c5])] ?_ ?_
  · intro t v h; exact args_look rfl t v h
  refine w_seq ?_
  refine w_region ?_
  refine rw_new (cs := #[.int .i64 n.kind, .int .i64 n.fr, .int .i64 n.tw, .slice A3 n.nums.length c3, .slice A4 n.ops.length c4, .slice A5 n.ents.length c5]) (t := 26) (fun g => .pointer (some ⟨g, 0, none⟩)) rfl rfl rfl rfl (by simp [go_sem, sEv, sLook, nbeq, i64_w, -List.getD_eq_getElem?_getD]) ?_
  intro g1 w2 hg6 hz5 hb3 hk4
  have hs_w2 := hb3.size
  refine rw_new (cs := #[.int .i64 0, .int .i64 0, .int .i64 0, .slice none 0 0, .slice none 0 0, .slice none 0 0]) (t := 26) (fun g => .pointer (some ⟨g, 0, none⟩)) rfl rfl rfl rfl (by kernel_rfl) ?_
  intro g7 w8 hg12 hz11 hb9 hk10
  have hs_w8 := hb9.size
  refine rw_end ?_
  refine w_seq ?_
  have hb13 := (hk4.on hb9)
  have hb14 := hk10
  have hc3_ := (Kd.C_below hn3 (chain hb3 hb9))
  have hnl_ : (n.nums.map (Value.int .i64)).length = n.nums.length := List.length_map _
  have hST_ := R.two_st (M := [0, 1, 3, 7, 15, 0, 32, 127, 0, 511, 0, 1024, 3072, 8191, 16383, 32767]) (p := 7) (q := 9) (x := ⟨(fun q_ => w8.heap.size ≤ q_), (fun W_ => Below w.heap.size w W_), (fun W_ => Below w.heap.size w W_), (WrAt w8.heap.size (n.nums.length + 1) 0 (n.nums.map (Value.int .i64)))⟩) (y := ⟨(fun q_ => w8.heap.size ≤ q_), (fun W_ => Below w.heap.size w W_), (fun W_ => Below w.heap.size w W_), (WrAt w8.heap.size (n.nums.length + 1) n.nums.length [(Value.int .i64 (-77))])⟩) (ss := [Is (.pointer (some ⟨g1, 3, none⟩)), Is (.slice A3 n.nums.length c3), Is (.int .i64 ((n.nums.length : Nat) : Int)), Is (.int .i64 (((n.nums.length + 1 : Nat) : Nat) : Int)), (SpPre w8.heap.size (n.nums.length + 1) 0 []), Is (.pointer (some ⟨g1, 3, none⟩)), Is (.slice A3 n.nums.length c3), (SpPre w8.heap.size (n.nums.length + 1) n.nums.length (n.nums.map (Value.int .i64))), (SlcSpec w8.heap.size 3 #[(Value.int .i64 (-77))] 1), (SpPre w8.heap.size (n.nums.length + 1) (n.nums.length + 1) ((n.nums.map (Value.int .i64)) ++ [(Value.int .i64 (-77))])), Is (.pointer (some ⟨g1, 3, none⟩)), Is (.slice A3 n.nums.length c3), Is (.int .i64 ((n.nums.length : Nat) : Int))])
    (fun k_ s_ hk_ hm_ hs_ v_ X_ Y_ hK_ hR_ h_ => by
      match k_, hs_ with
      | 0, hs_ => have e_ := Option.some.inj hs_; subst e_; exact h_
      | 1, hs_ => have e_ := Option.some.inj hs_; subst e_; exact h_
      | 2, hs_ => have e_ := Option.some.inj hs_; subst e_; exact h_
      | 3, hs_ => have e_ := Option.some.inj hs_; subst e_; exact h_
      | 4, hs_ => have e_ := Option.some.inj hs_; subst e_; exact pre_stab h_ hR_ (by rw [hnl_]; omega) (by omega)
      | 5, hs_ => have e_ := Option.some.inj hs_; subst e_; exact h_
      | 6, hs_ => have e_ := Option.some.inj hs_; subst e_; exact h_
      | 7, _ => exact absurd rfl hk_
      | 8, hs_ => have e_ := Option.some.inj hs_; subst e_; exact lit_stab h_ hR_ (fun e_ => ⟨rfl, .inl (by rw [List.map_eq_nil_iff]; exact List.length_eq_zero_iff.1 (by omega))⟩)
      | 9, _ => exact absurd hm_ (by decide)
      | 10, hs_ => have e_ := Option.some.inj hs_; subst e_; exact h_
      | 11, hs_ => have e_ := Option.some.inj hs_; subst e_; exact h_
      | 12, hs_ => have e_ := Option.some.inj hs_; subst e_; exact h_
      | q_ + 13, hs_ => simp at hs_)
    (fun k_ s_ hk_ hm_ hs_ v_ X_ Y_ hK_ hR_ h_ => by
      match k_, hs_ with
      | 0, hs_ => have e_ := Option.some.inj hs_; subst e_; exact h_
      | 1, hs_ => have e_ := Option.some.inj hs_; subst e_; exact h_
      | 2, hs_ => have e_ := Option.some.inj hs_; subst e_; exact h_
      | 3, hs_ => have e_ := Option.some.inj hs_; subst e_; exact h_
      | 4, hs_ => have e_ := Option.some.inj hs_; subst e_; exact pre_stab h_ hR_ (by simp) (by omega)
      | 5, hs_ => have e_ := Option.some.inj hs_; subst e_; exact h_
      | 6, hs_ => have e_ := Option.some.inj hs_; subst e_; exact h_
      | 7, hs_ => have e_ := Option.some.inj hs_; subst e_; exact pre_stab h_ hR_ (by simp) (by omega)
      | 8, hs_ => have e_ := Option.some.inj hs_; subst e_; exact lit_stab h_ hR_ (fun e_ => ⟨by omega, .inr rfl⟩)
      | 9, _ => exact absurd rfl hk_
      | 10, hs_ => have e_ := Option.some.inj hs_; subst e_; exact h_
      | 11, hs_ => have e_ := Option.some.inj hs_; subst e_; exact h_
      | 12, hs_ => have e_ := Option.some.inj hs_; subst e_; exact h_
      | q_ + 13, hs_ => simp at hs_)
  have hFF_ := R.two_ff (p := 7) (q := 9) (x := ⟨(fun q_ => w8.heap.size ≤ q_), (fun W_ => Below w.heap.size w W_), (fun W_ => Below w.heap.size w W_), (WrAt w8.heap.size (n.nums.length + 1) 0 (n.nums.map (Value.int .i64)))⟩) (y := ⟨(fun q_ => w8.heap.size ≤ q_), (fun W_ => Below w.heap.size w W_), (fun W_ => Below w.heap.size w W_), (WrAt w8.heap.size (n.nums.length + 1) n.nums.length [(Value.int .i64 (-77))])⟩) (fun X_ Y_ hk_ hq_ => ⟨fun h_ => below_k h_ hk_ hq_ (fun q_ e_ => by have e2_ : w8.heap.size ≤ q_ := e_; omega), fun h_ => below_k h_ hk_ hq_ (fun q_ e_ => by have e2_ : w8.heap.size ≤ q_ := e_; omega)⟩) (fun X_ Y_ hk_ hq_ => ⟨fun h_ => below_k h_ hk_ hq_ (fun q_ e_ => by have e2_ : w8.heap.size ≤ q_ := e_; omega), fun h_ => below_k h_ hk_ hq_ (fun q_ e_ => by have e2_ : w8.heap.size ≤ q_ := e_; omega)⟩)
  have hF_ := R.two_cases (p := 7) (q := 9) (x := ⟨(fun q_ => w8.heap.size ≤ q_), (fun W_ => Below w.heap.size w W_), (fun W_ => Below w.heap.size w W_), (WrAt w8.heap.size (n.nums.length + 1) 0 (n.nums.map (Value.int .i64)))⟩) (y := ⟨(fun q_ => w8.heap.size ≤ q_), (fun W_ => Below w.heap.size w W_), (fun W_ => Below w.heap.size w W_), (WrAt w8.heap.size (n.nums.length + 1) n.nums.length [(Value.int .i64 (-77))])⟩) (P := fun _ z => ∀ X_ Y_, Below X_.heap.size X_ Y_ → (z.F0 X_ → z.F0 Y_) ∧ (z.F1 X_ → z.F1 Y_)) (fun X_ Y_ hb_ => ⟨fun h_ => chain h_ hb_, fun h_ => chain h_ hb_⟩) (fun X_ Y_ hb_ => ⟨fun h_ => chain h_ hb_, fun h_ => chain h_ hb_⟩)
  have hI_ := R.two_cases (p := 7) (q := 9) (x := ⟨(fun q_ => w8.heap.size ≤ q_), (fun W_ => Below w.heap.size w W_), (fun W_ => Below w.heap.size w W_), (WrAt w8.heap.size (n.nums.length + 1) 0 (n.nums.map (Value.int .i64)))⟩) (y := ⟨(fun q_ => w8.heap.size ≤ q_), (fun W_ => Below w.heap.size w W_), (fun W_ => Below w.heap.size w W_), (WrAt w8.heap.size (n.nums.length + 1) n.nums.length [(Value.int .i64 (-77))])⟩) (P := fun _ z => z.F0 w8.drew) (chain (chain hb3 hb9) (below_drew _)) (chain (chain hb3 hb9) (below_drew _))
  refine R.w_drawo (M := [0, 1, 3, 7, 15, 0, 32, 127, 0, 511, 0, 1024, 3072, 8191, 16383, 32767]) (ss := [Is (.pointer (some ⟨g1, 3, none⟩)), Is (.slice A3 n.nums.length c3), Is (.int .i64 ((n.nums.length : Nat) : Int)), Is (.int .i64 (((n.nums.length + 1 : Nat) : Nat) : Int)), (SpPre w8.heap.size (n.nums.length + 1) 0 []), Is (.pointer (some ⟨g1, 3, none⟩)), Is (.slice A3 n.nums.length c3), (SpPre w8.heap.size (n.nums.length + 1) n.nums.length (n.nums.map (Value.int .i64))), (SlcSpec w8.heap.size 3 #[(Value.int .i64 (-77))] 1), (SpPre w8.heap.size (n.nums.length + 1) (n.nums.length + 1) ((n.nums.map (Value.int .i64)) ++ [(Value.int .i64 (-77))])), Is (.pointer (some ⟨g1, 3, none⟩)), Is (.slice A3 n.nums.length c3), Is (.int .i64 ((n.nums.length : Nat) : Int))]) (R.two 7 9 ⟨(fun q_ => w8.heap.size ≤ q_), (fun W_ => Below w.heap.size w W_), (fun W_ => Below w.heap.size w W_), (WrAt w8.heap.size (n.nums.length + 1) 0 (n.nums.map (Value.int .i64)))⟩ ⟨(fun q_ => w8.heap.size ≤ q_), (fun W_ => Below w.heap.size w W_), (fun W_ => Below w.heap.size w W_), (WrAt w8.heap.size (n.nums.length + 1) n.nums.length [(Value.int .i64 (-77))])⟩) 13 rfl (by decide +kernel) (R.two_cases (P := fun j _ => j < 13) (by decide) (by decide)) hST_ hF_ hFF_ hI_ ?_
  refine R.v_is (by kernel_rfl) (.pointer (some ⟨g1, 3, none⟩)) rfl rfl rfl rfl (fun W_ hW_ h1_ F_ => by simp [go_sem, sEv, sLook, nbeq, i64_w, -List.getD_eq_getElem?_getD, Try.underlying26]) ?_
  refine R.v_is (by kernel_rfl) (.slice A3 n.nums.length c3) rfl rfl rfl rfl (fun W_ hW_ h1_ F_ => by have eb_ := Blk.kept hb13 (drew_kept hW_) (fun hs_ => (R.mu_two hs_).elim (fun e_ => by have e2_ : w8.heap.size ≤ g1 := e_; omega) (fun e_ => by have e2_ : w8.heap.size ≤ g1 := e_; omega)); have e0_ := eb_.cellv (i := 3) (v := (.slice A3 n.nums.length c3 : Value)) rfl; simp [go_sem, sEv, sLook, nbeq, i64_w, -List.getD_eq_getElem?_getD, e0_, Try.underlying22]) ?_
  refine R.v_is (by kernel_rfl) (.int .i64 ((n.nums.length : Nat) : Int)) rfl rfl rfl rfl (fun W_ hW_ h1_ F_ => by simp [go_sem, sEv, sLook, nbeq, i64_w, -List.getD_eq_getElem?_getD]) ?_
  refine R.v_is (by kernel_rfl) (.int .i64 (((n.nums.length + 1 : Nat) : Nat) : Int)) rfl rfl rfl rfl (fun W_ hW_ h1_ F_ => by simp [go_sem, sEv, sLook, nbeq, i64_w, -List.getD_eq_getElem?_getD]; exact wrap_id (by omega) (by omega)) ?_
  refine R.v_val (by kernel_rfl) (SpPre w8.heap.size (n.nums.length + 1) 0 []) rfl rfl rfl rfl (fun W_ hW_ h1_ F_ => mk_gives _ _ _ (drew_kept hW_).1 (made_sz _) (run_as (make_big (n.nums.length + 1) (by omega)))) ?_
  rintro _ ⟨g15, rfl, hga_⟩
  refine R.v_is (by kernel_rfl) (.pointer (some ⟨g1, 3, none⟩)) rfl rfl rfl rfl (fun W_ hW_ h1_ F_ => by simp [go_sem, sEv, sLook, nbeq, i64_w, -List.getD_eq_getElem?_getD, Try.underlying26]) ?_
  refine R.v_is (by kernel_rfl) (.slice A3 n.nums.length c3) rfl rfl rfl rfl (fun W_ hW_ h1_ F_ => by have eb_ := Blk.kept hb13 (drew_kept hW_) (fun hs_ => (R.mu_two hs_).elim (fun e_ => by have e2_ : w8.heap.size ≤ g1 := e_; omega) (fun e_ => by have e2_ : w8.heap.size ≤ g1 := e_; omega)); have e0_ := eb_.cellv (i := 3) (v := (.slice A3 n.nums.length c3 : Value)) rfl; simp [go_sem, sEv, sLook, nbeq, i64_w, -List.getD_eq_getElem?_getD, e0_, Try.underlying22]) ?_
  refine R.v_app (x := ⟨(fun q_ => w8.heap.size ≤ q_), (fun W_ => Below w.heap.size w W_), (fun W_ => Below w.heap.size w W_), (WrAt w8.heap.size (n.nums.length + 1) 0 (n.nums.map (Value.int .i64)))⟩) rfl (SpPre w8.heap.size (n.nums.length + 1) n.nums.length (n.nums.map (Value.int .i64))) rfl rfl rfl rfl (fun W_ hW_ h0_ F_ => ?_) ?_
  ·
    exact app_go (app_pre w8.heap.size (n.nums.length + 1) 0 n.nums.length n.nums.length [] (n.nums.map (Value.int .i64)) rfl rfl (F_ 4 _ _ rfl rfl) rfl hnl_ (by omega) (fun hp_ => ints_cells (Kd.C_below hn3 h0_) hp_) (fun u hu => by obtain ⟨x_, _, rfl⟩ := List.mem_map.1 hu; rfl) (by omega)) h0_ (by omega)
  rintro _ ⟨g16, rfl, hgb_⟩
  refine R.v_val (by kernel_rfl) (SlcSpec w8.heap.size 3 #[(Value.int .i64 (-77))] 1) rfl rfl rfl rfl (fun W_ hW_ h1_ F_ => slc_gives _ _ _ _ (drew_kept hW_).1 (by kernel_rfl)) ?_
  rintro _ ⟨g18, rfl⟩
  refine R.v_app (x := ⟨(fun q_ => w8.heap.size ≤ q_), (fun W_ => Below w.heap.size w W_), (fun W_ => Below w.heap.size w W_), (WrAt w8.heap.size (n.nums.length + 1) n.nums.length [(Value.int .i64 (-77))])⟩) rfl (SpPre w8.heap.size (n.nums.length + 1) (n.nums.length + 1) ((n.nums.map (Value.int .i64)) ++ [(Value.int .i64 (-77))])) rfl rfl rfl rfl (fun W_ hW_ h0_ F_ => ?_) ?_
  ·
    exact app_go (app_pre w8.heap.size (n.nums.length + 1) n.nums.length 1 (n.nums.length + 1) (n.nums.map (Value.int .i64)) [(Value.int .i64 (-77))] rfl rfl (F_ 7 _ _ rfl rfl) rfl rfl rfl (fun _ => ⟨_, rfl, fun j_ u_ hj_ => by have hb9_ := (slc_fact (F_ 8 _ _ rfl rfl)).2; match j_, hj_ with | 0, hj_ => have e_ := Option.some.inj hj_; subst e_; exact hb9_.cellv rfl | j_ + 1, hj_ => simp at hj_⟩) (fun u hu => by rw [List.mem_singleton.1 hu]; rfl) (Nat.le_refl _)) h0_ (by omega)
  rintro _ ⟨g17, rfl, hgc_⟩
  refine R.v_is (by kernel_rfl) (.pointer (some ⟨g1, 3, none⟩)) rfl rfl rfl rfl (fun W_ hW_ h1_ F_ => by simp [go_sem, sEv, sLook, nbeq, i64_w, -List.getD_eq_getElem?_getD, Try.underlying26]) ?_
  refine R.v_is (by kernel_rfl) (.slice A3 n.nums.length c3) rfl rfl rfl rfl (fun W_ hW_ h1_ F_ => by have eb_ := Blk.kept hb13 (drew_kept hW_) (fun hs_ => (R.mu_two hs_).elim (fun e_ => by have e2_ : w8.heap.size ≤ g1 := e_; omega) (fun e_ => by have e2_ : w8.heap.size ≤ g1 := e_; omega)); have e0_ := eb_.cellv (i := 3) (v := (.slice A3 n.nums.length c3 : Value)) rfl; simp [go_sem, sEv, sLook, nbeq, i64_w, -List.getD_eq_getElem?_getD, e0_, Try.underlying22]) ?_
  refine R.v_is (by kernel_rfl) (.int .i64 ((n.nums.length : Nat) : Int)) rfl rfl rfl rfl (fun W_ hW_ h1_ F_ => by simp [go_sem, sEv, sLook, nbeq, i64_w, -List.getD_eq_getElem?_getD]) ?_
  refine R.v_tail ?_
  intro w19 hK20_ h21 F22
  have hK20 := drew_kept hK20_
  have hB23 : Below w.heap.size w w19 := h21 7 _ rfl
  have hs_w19 := hB23.size
  have hgs_w19 := hK20.1
  obtain ⟨hge_, hk24⟩ := pre_blk (xs := n.nums ++ [(-77)]) (by rw [List.map_append]; exact F22 9 (SpPre w8.heap.size (n.nums.length + 1) (n.nums.length + 1) ((n.nums.map (Value.int .i64)) ++ [(Value.int .i64 (-77))])) (.slice (some ⟨g17, 0, none⟩) (n.nums.length + 1) (n.nums.length + 1)) (by kernel_rfl))
  have hlm_ : (n.nums ++ [(-77)]).length = n.nums.length + 1 := by simp
  have hO25 : OwnK (Kd.int .i64) 3 w19 w.heap.size g17 (some ⟨g17, 0, none⟩) (n.nums.length + 1) (n.nums.length + 1) (n.nums ++ [(-77)]) := by rw [← hlm_]; exact scal_own w.heap.size hk24 (by omega) rfl rfl (by omega)
  have hk26 := Blk.kept hb13 hK20 (fun hs_ => (R.mu_two hs_).elim (fun e_ => by have e2_ : w8.heap.size ≤ g1 := e_; omega) (fun e_ => by have e2_ : w8.heap.size ≤ g1 := e_; omega))
  have hk27 := Blk.kept hb14 hK20 (fun hs_ => (R.mu_two hs_).elim (fun e_ => by have e2_ : w8.heap.size ≤ g7 := e_; omega) (fun e_ => by have e2_ : w8.heap.size ≤ g7 := e_; omega))
  clear F22 hST_ hFF_ hF_ hI_
  have hl28 : (n.nums ++ [(-77)]).length = n.nums.length + ([(-77)] : List Int).length := List.length_append
  have hl28_ : ([(-77)] : List Int).length = 1 := rfl
  refine rw_val (v := .slice (some ⟨g17, 0, none⟩) n.nums.length (n.nums.length + 1)) (w' := w19) rfl rfl rfl rfl (run_as (sl_to (sz := 1) (e := 3) (by kernel_rfl) (fun _ => by kernel_rfl) n.nums.length _ (by first | rfl | (simp; done) | omega) (by have q_ := OwnK.cap (d := (Kd.int .i64)) hO25; omega) _)) ?_
  refine rw_val (v := .pointer (some ⟨g1, 3, none⟩)) (w' := w19) rfl rfl rfl rfl (by simp [go_sem, sEv, sLook, nbeq, i64_w, -List.getD_eq_getElem?_getD, Try.underlying26]) ?_
  have hb32 := hk26
  refine rw_store (g := g1) (i := 3) (l := [.slice (some ⟨g17, 0, none⟩) n.nums.length (n.nums.length + 1)]) (cs' := #[.int .i64 n.kind, .int .i64 n.fr, .int .i64 n.tw, .slice (some ⟨g17, 0, none⟩) n.nums.length (n.nums.length + 1), .slice A4 n.ops.length c4, .slice A5 n.ents.length c5]) rfl rfl rfl hb32 rfl (by have e0_ := hb32.cellv (i := 3) (v := (.slice A3 n.nums.length c3 : Value)) rfl; have f0_ := hb32.frozen 3; simp [go_sem, sEv, sLook, nbeq, i64_w, -List.getD_eq_getElem?_getD, putCells, e0_, f0_, Try.underlying22]) ?_
  intro w29 hk30 hk31
  have hs_w29 := hk30.size
  refine rw_end ?_
  refine w_weaken (G' := [(1, .pointer (some ⟨g1, 0, none⟩)), (2, .pointer (some ⟨g7, 0, none⟩))]) ⟨rfl, rfl, trivial⟩ ?_
  refine w_seq ?_
  refine w_region ?_
  refine rw_new (cs := #[]) (t := 73) (fun g => .slice (some ⟨g, 0, none⟩) 0 0) rfl rfl rfl rfl (by kernel_rfl) ?_
  intro g33 w34 hg38 hz37 hb35 hk36
  have hs_w34 := hb35.size
  have hk36r : OwnK kOp 73 w34 w.heap.size g33 (some ⟨g33, 0, none⟩) 0 0 ([] : List OpL) := lit_nilK _ w.heap.size hk36 (by omega)
  refine rw_val (v := .pointer (some ⟨g1, 4, none⟩)) (w' := w34) rfl rfl rfl rfl (by simp [go_sem, sEv, sLook, nbeq, i64_w, -List.getD_eq_getElem?_getD, Try.underlying26]) ?_
  refine rw_val (v := .slice A4 n.ops.length c4) (w' := w34) rfl rfl rfl rfl (by have eb_ := (hk31.on hb35); have e0_ := eb_.cellv (i := 4) (v := (.slice A4 n.ops.length c4 : Value)) rfl; simp [go_sem, sEv, sLook, nbeq, i64_w, -List.getD_eq_getElem?_getD, e0_, Try.underlying23]) ?_
  have oA45 : OwnK kOp 73 w34 w.heap.size g33 (some ⟨g33, 0, none⟩) 0 0 ([] : List OpL) := hk36r
  refine rw_append_kd (d := kOp) w.heap.size rfl rfl rfl (.tmp 18) (.tmp 20) rfl rfl 23 73 (.agg #[.int .i64 0, .int .i64 0, .int .i64 0, .int .i64 0, .int .i64 0]) 40 rfl (by kernel_rfl) (by kernel_rfl) rfl (show 0 < 5 by decide) (by decide) (fun _ _ h => h) (b := g33) rfl rfl (by omega) oA45 (Kd.C_below hn4 (chain (hk30.below (by omega) hB23) hb35)) (chain (hk30.below (by omega) hB23) hb35) (by omega) (by rw [List.length_nil, Nat.zero_add]; omega) ?_
  intro A39 c40 w41 hO42 hB43 hG44
  rw [List.nil_append] at hO42
  try rw [List.nil_append]
  have hs_w41 := hB43.size
  have hgs_w41 := hG44.size
  have hO46 := OwnK.grown (d := (Kd.int .i64)) (OwnK.on (d := (Kd.int .i64)) (own_keep (d := (Kd.int .i64)) hO25 hk26 (by decide) hk30) hb35) oA45 (by decide) hG44
  have hk47 := OwnK.blk_grown (hk31.on hb35) oA45 (.inr (by decide)) hG44
  have hk48 := OwnK.blk_grown ((hk27.keep hk30 (by omega)).on hb35) oA45 (.inr (by decide)) hG44
  refine rw_val (v := .pointer (some ⟨g1, 4, none⟩)) (w' := w41) rfl rfl rfl rfl (by simp [go_sem, sEv, sLook, nbeq, i64_w, -List.getD_eq_getElem?_getD, Try.underlying26]) ?_
  have hb52 := hk47
  refine rw_store (g := g1) (i := 4) (l := [.slice A39 n.ops.length c40]) (cs' := #[.int .i64 n.kind, .int .i64 n.fr, .int .i64 n.tw, .slice (some ⟨g17, 0, none⟩) n.nums.length (n.nums.length + 1), .slice A39 n.ops.length c40, .slice A5 n.ents.length c5]) rfl rfl rfl hb52 rfl (by have e0_ := hb52.cellv (i := 4) (v := (.slice A4 n.ops.length c4 : Value)) rfl; have f0_ := hb52.frozen 4; simp [go_sem, sEv, sLook, nbeq, i64_w, -List.getD_eq_getElem?_getD, putCells, e0_, f0_, Try.underlying23]) ?_
  intro w49 hk50 hk51
  have hs_w49 := hk50.size
  refine rw_end ?_
  refine w_weaken (G' := [(1, .pointer (some ⟨g1, 0, none⟩)), (2, .pointer (some ⟨g7, 0, none⟩))]) ⟨rfl, rfl, trivial⟩ ?_
  refine w_seq ?_
  refine w_region ?_
  refine rw_new (cs := #[]) (t := 83) (fun g => .slice (some ⟨g, 0, none⟩) 0 0) rfl rfl rfl rfl (by kernel_rfl) ?_
  intro g53 w54 hg58 hz57 hb55 hk56
  have hs_w54 := hb55.size
  have hk56r : OwnK kEntry 83 w54 w.heap.size g53 (some ⟨g53, 0, none⟩) 0 0 ([] : List EL) := lit_nilK kEntry w.heap.size hk56 (by omega)
  refine rw_val (v := .pointer (some ⟨g1, 5, none⟩)) (w' := w54) rfl rfl rfl rfl (by simp [go_sem, sEv, sLook, nbeq, i64_w, -List.getD_eq_getElem?_getD, Try.underlying26]) ?_
  refine rw_val (v := .slice A5 n.ents.length c5) (w' := w54) rfl rfl rfl rfl (by have eb_ := (hk51.on hb55); have e0_ := eb_.cellv (i := 5) (v := (.slice A5 n.ents.length c5 : Value)) rfl; simp [go_sem, sEv, sLook, nbeq, i64_w, -List.getD_eq_getElem?_getD, e0_, Try.underlying24]) ?_
  have oA65 : OwnK kEntry 83 w54 w.heap.size g53 (some ⟨g53, 0, none⟩) 0 0 ([] : List EL) := hk56r
  refine rw_append_kd (d := kEntry) w.heap.size rfl rfl rfl (.tmp 23) (.tmp 25) rfl rfl 24 83 (.agg (earr EL.zero)) 608 rfl (by kernel_rfl) (by kernel_rfl) rfl (show 0 < 76 by decide) (by decide) (fun _ _ h => h) (b := g53) rfl rfl (by omega) oA65 (Kd.C_below hn5 (chain (hk50.below (by omega) hB43) hb55)) (chain (hk50.below (by omega) hB43) hb55) (by omega) (by rw [List.length_nil, Nat.zero_add]; omega) ?_
  intro A59 c60 w61 hO62 hB63 hG64
  rw [List.nil_append] at hO62
  try rw [List.nil_append]
  have hs_w61 := hB63.size
  have hgs_w61 := hG64.size
  have hO66 := OwnK.grown (d := (Kd.int .i64)) (OwnK.on (d := (Kd.int .i64)) (own_keep (d := (Kd.int .i64)) hO46 hk47 (by decide) hk50) hb55) oA65 (by decide) hG64
  have hO67 := OwnK.grown (d := kOp) (OwnK.on (d := kOp) (own_keep (d := kOp) hO42 hk47 (by decide) hk50) hb55) oA65 (by decide) hG64
  have hk68 := OwnK.blk_grown (hk51.on hb55) oA65 (.inr (by decide)) hG64
  have hk69 := OwnK.blk_grown ((hk48.keep hk50 (by omega)).on hb55) oA65 (.inr (by decide)) hG64
  refine rw_val (v := .pointer (some ⟨g1, 5, none⟩)) (w' := w61) rfl rfl rfl rfl (by simp [go_sem, sEv, sLook, nbeq, i64_w, -List.getD_eq_getElem?_getD, Try.underlying26]) ?_
  have hb73 := hk68
  refine rw_store (g := g1) (i := 5) (l := [.slice A59 n.ents.length c60]) (cs' := #[.int .i64 n.kind, .int .i64 n.fr, .int .i64 n.tw, .slice (some ⟨g17, 0, none⟩) n.nums.length (n.nums.length + 1), .slice A39 n.ops.length c40, .slice A59 n.ents.length c60]) rfl rfl rfl hb73 rfl (by have e0_ := hb73.cellv (i := 5) (v := (.slice A5 n.ents.length c5 : Value)) rfl; have f0_ := hb73.frozen 5; simp [go_sem, sEv, sLook, nbeq, i64_w, -List.getD_eq_getElem?_getD, putCells, e0_, f0_, Try.underlying24]) ?_
  intro w70 hk71 hk72
  have hs_w70 := hk71.size
  refine rw_end ?_
  refine w_weaken (G' := [(1, .pointer (some ⟨g1, 0, none⟩)), (2, .pointer (some ⟨g7, 0, none⟩))]) ⟨rfl, rfl, trivial⟩ ?_
  refine w_seq ?_
  refine w_region ?_
  refine rw_val (v := .agg #[.int .i64 n.kind, .int .i64 n.fr, .int .i64 n.tw, .slice (some ⟨g17, 0, none⟩) n.nums.length (n.nums.length + 1), .slice A39 n.ops.length c40, .slice A59 n.ents.length c60]) (w' := w70) rfl rfl rfl rfl (by have eb_ := hk72; have e0_ := eb_.cellv (i := 0) (v := (.int .i64 n.kind : Value)) rfl; have e1_ := eb_.cellv (i := 1) (v := (.int .i64 n.fr : Value)) rfl; have e2_ := eb_.cellv (i := 2) (v := (.int .i64 n.tw : Value)) rfl; have e3_ := eb_.cellv (i := 3) (v := (.slice (some ⟨g17, 0, none⟩) n.nums.length (n.nums.length + 1) : Value)) rfl; have e4_ := eb_.cellv (i := 4) (v := (.slice A39 n.ops.length c40 : Value)) rfl; have e5_ := eb_.cellv (i := 5) (v := (.slice A59 n.ents.length c60 : Value)) rfl; simp [go_sem, sEv, sLook, nbeq, i64_w, -List.getD_eq_getElem?_getD, e0_, e1_, e2_, e3_, e4_, e5_, Try.underlying26]) ?_
  have hb77 := (hk69.keep hk71 (by omega))
  refine rw_store (g := g7) (i := 0) (l := [.int .i64 n.kind, .int .i64 n.fr, .int .i64 n.tw, .slice (some ⟨g17, 0, none⟩) n.nums.length (n.nums.length + 1), .slice A39 n.ops.length c40, .slice A59 n.ents.length c60]) (cs' := #[.int .i64 n.kind, .int .i64 n.fr, .int .i64 n.tw, .slice (some ⟨g17, 0, none⟩) n.nums.length (n.nums.length + 1), .slice A39 n.ops.length c40, .slice A59 n.ents.length c60]) rfl rfl rfl hb77 rfl (by have e0_ := hb77.cellv (i := 0) (v := (.int .i64 0 : Value)) rfl; have f0_ := hb77.frozen 0; have e1_ := hb77.cellv (i := 1) (v := (.int .i64 0 : Value)) rfl; have f1_ := hb77.frozen 1; have e2_ := hb77.cellv (i := 2) (v := (.int .i64 0 : Value)) rfl; have f2_ := hb77.frozen 2; have e3_ := hb77.cellv (i := 3) (v := (.slice none 0 0 : Value)) rfl; have f3_ := hb77.frozen 3; have e4_ := hb77.cellv (i := 4) (v := (.slice none 0 0 : Value)) rfl; have f4_ := hb77.frozen 4; have e5_ := hb77.cellv (i := 5) (v := (.slice none 0 0 : Value)) rfl; have f5_ := hb77.frozen 5; simp [go_sem, sEv, sLook, nbeq, i64_w, -List.getD_eq_getElem?_getD, putCells, e0_, f0_, e1_, f1_, e2_, f2_, e3_, f3_, e4_, f4_, e5_, f5_, Try.underlying26]) ?_
  intro w74 hk75 hk76
  have hs_w74 := hk75.size
  refine rw_end ?_
  refine w_ret (post_retc (v := .agg #[.int .i64 n.kind, .int .i64 n.fr, .int .i64 n.tw, .slice (some ⟨g17, 0, none⟩) n.nums.length (n.nums.length + 1), .slice A39 n.ops.length c40, .slice A59 n.ents.length c60]) rfl rfl (by have eb_ := hk76; have e0_ := eb_.cellv (i := 0) (v := (.int .i64 n.kind : Value)) rfl; have e1_ := eb_.cellv (i := 1) (v := (.int .i64 n.fr : Value)) rfl; have e2_ := eb_.cellv (i := 2) (v := (.int .i64 n.tw : Value)) rfl; have e3_ := eb_.cellv (i := 3) (v := (.slice (some ⟨g17, 0, none⟩) n.nums.length (n.nums.length + 1) : Value)) rfl; have e4_ := eb_.cellv (i := 4) (v := (.slice A39 n.ops.length c40 : Value)) rfl; have e5_ := eb_.cellv (i := 5) (v := (.slice A59 n.ents.length c60 : Value)) rfl; simp [go_sem, e0_, e1_, e2_, e3_, e4_, e5_, Try.underlying26]) ?_)
  exact ⟨_, _, _, _, _, _, rfl, (OwnK.mono (d := (Kd.int .i64)) (own_keep (d := (Kd.int .i64)) (own_keep (d := (Kd.int .i64)) hO66 hk68 (by decide) hk71) (hk69.keep hk71 (by omega)) (by decide) hk75) (by omega)), (OwnK.mono (d := kOp) (own_keep (d := kOp) (own_keep (d := kOp) hO67 hk68 (by decide) hk71) (hk69.keep hk71 (by omega)) (by decide) hk75) (by omega)), (OwnK.mono (d := kEntry) (own_keep (d := kEntry) (own_keep (d := kEntry) hO62 hk68 (by decide) hk71) (hk69.keep hk71 (by omega)) (by decide) hk75) (by omega)), (hk75.below (by omega) (hk71.below (by omega) hB63))⟩
end Go.Proofs.Ytbbhdohjhipalaa.Ce
end
section
namespace Go.Proofs.Ytbbhdohjhipalaa.Flow
open Go.RowKit Go.Proofs.YtbbhdohjhipalaaW.PrintWords Go.Proofs.YtbbhdohjhipalaaW.PrintLast Go.Proofs.YtbbhdohjhipalaaW.PrintMore
open Go.ChangeShapes Go.WideShapes Go.ChangeAt Go.Deep
set_option linter.unusedVariables false
set_option linter.unusedSectionVars false
section
variable {H : Type} {enc : TypeId × Value → H} {P : Program} {W : World}
theorem opw_sliceb {α : Type} {t e : TypeId} {d : Kd α} {ok : α → Prop} (b : Nat) (ht : P.underlying t = some (.slice e)) (hsz : P.cellsOf e = d.sz) (hB : b ≤ P.bytesOf e) (hb1 : 1 ≤ b) (z : α) (he : OpW enc P W e d ok) : OpW enc P W t (Kd.slice e d) (fun xs => xs.length * b ≤ 140737488351232 ∧ ∀ x ∈ xs, ok x) := fun m cs y h hL => by
  obtain ⟨xs, h1, h2, h3⟩ := opw_slice ht hsz (Nat.le_trans hb1 hB) z he m cs y h hL
  rcases open_slice ht h with ⟨rfl, _⟩ | ⟨a, len, cap, m2, n, D, Pl, rfl, _, hl, hm, hmm, hy, hx⟩
  · exact ⟨[], ⟨none, 0, rfl, Nat.le_refl _, ⟨rfl, by simp, fun h => absurd h (by simp)⟩⟩, by simp, fun x hx => by cases hx⟩
  · refine ⟨xs, h1, ?_, h3⟩
    obtain ⟨A, c, e1, _, hC⟩ := h1
    simp only [List.cons.injEq, and_true] at e1
    injection e1 with _ e2 _
    simp only [if_true] at hmm
    subst hy
    have h1 := hL ((((List.range len).map D).length + ((List.range (m2 - len)).map fun j => D (len + j)).length) * P.bytesOf e) (by simp [DataW.weights, ht])
    simp only [List.length_map, List.length_range] at h1
    exact Nat.le_trans (Nat.mul_le_mul (by omega) hB) h1
end
end Go.Proofs.Ytbbhdohjhipalaa.Flow
namespace Go.Proofs.Ytbbhdohjhipalaa.Ce
open Go.RowKit Go.Proofs.YtbbhdohjhipalaaW.PrintWords Go.Proofs.YtbbhdohjhipalaaW.PrintLast Go.Proofs.YtbbhdohjhipalaaW.PrintMore
open Go.Proofs.Ytbbhdohjhipalaa.Flow
set_option linter.unusedVariables false
def BIff (p : Prop) : Flow.Spec where
  s v _ := ∃ b, v = .bool b ∧ (b = true ↔ p)
  pl v := ∃ b, v = .bool b ∧ (b = true ↔ p)
  stab := fun _ _ _ _ h => h
  imp := fun _ _ h => h
  inh := by
    rcases Classical.em p with h | h
    · exact ⟨.bool true, true, rfl, yes_iff h⟩
    · exact ⟨.bool false, false, rfl, no_iff h⟩
def CopSpec (n : NT) (base B : Nat) : Flow.Spec where
  s v w := ∃ A3 c3 A4 c4 A5 c5, v = .agg #[.int .i64 n.kind, .int .i64 n.fr, .int .i64 n.tw, .slice A3 n.nums.length c3, .slice A4 n.ops.length c4, .slice A5 n.ents.length c5] ∧ OwnK (Kd.int .i64) 3 w base B A3 (n.nums.length + 1) c3 (n.nums ++ [(-77)]) ∧ OwnK kOp 73 w base B A4 n.ops.length c4 n.ops ∧ OwnK kEntry 83 w base B A5 n.ents.length c5 n.ents
  pl v := ∃ A3 c3 A4 c4 A5 c5, v = .agg #[.int .i64 n.kind, .int .i64 n.fr, .int .i64 n.tw, .slice A3 n.nums.length c3, .slice A4 n.ops.length c4, .slice A5 n.ents.length c5]
  stab := fun v w w' hb ⟨A3, c3, A4, c4, A5, c5, h, h3, h4, h5⟩ => ⟨A3, c3, A4, c4, A5, c5, h, OwnK.on (d := Kd.int .i64) h3 hb, OwnK.on (d := kOp) h4 hb, OwnK.on (d := kEntry) h5 hb⟩
  imp := fun v w ⟨A3, c3, A4, c4, A5, c5, h, _⟩ => ⟨A3, c3, A4, c4, A5, c5, h⟩
  inh := ⟨_, none, 0, none, 0, none, 0, rfl⟩
theorem cop_fact {n : NT} {base B : Nat} {A3 A4 A5 : Option Addr} {c3 c4 c5 : Nat} {w : World} (h : (CopSpec n base B).s (.agg #[.int .i64 n.kind, .int .i64 n.fr, .int .i64 n.tw, .slice A3 n.nums.length c3, .slice A4 n.ops.length c4, .slice A5 n.ents.length c5]) w) : OwnK (Kd.int .i64) 3 w base B A3 (n.nums.length + 1) c3 (n.nums ++ [(-77)]) ∧ OwnK kOp 73 w base B A4 n.ops.length c4 n.ops ∧ OwnK kEntry 83 w base B A5 n.ents.length c5 n.ents := by
  obtain ⟨B3, d3, B4, d4, B5, d5, e, h3, h4, h5⟩ := h
  simp only [Value.agg.injEq, Array.mk.injEq, List.cons.injEq, Value.slice.injEq, true_and, and_true] at e
  obtain ⟨⟨rfl, rfl⟩, ⟨rfl, rfl⟩, ⟨rfl, rfl⟩⟩ := e
  exact ⟨h3, h4, h5⟩
end Go.Proofs.Ytbbhdohjhipalaa.Ce
end
