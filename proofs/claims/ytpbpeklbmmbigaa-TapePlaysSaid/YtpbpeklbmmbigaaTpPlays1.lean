/- How long a script is; an arming below nought. -/
import Derived.Test.YtpbpeklbmmbigaaTpPlays0
namespace Go.Proofs.Ytpbpeklbmmbigaa.Tp
open Go.RowKit Go.Proofs.YtpbpeklbmmbigaaW.PrintWords Go.Proofs.YtpbpeklbmmbigaaW.PrintLast Go.Proofs.YtpbpeklbmmbigaaW.PrintMore
open Go.Proofs.Ytpbpeklbmmbigaa.Flow
set_option linter.unusedVariables false
set_option linter.unusedSimpArgs false


theorem ops_at {w : World} {A : Option Addr} {n : Nat} {xs : List (Int × List Int × Int)} (h : (Kd.pair (Kd.int .i64) (Kd.pair (Kd.slice 5 (Kd.int .u8)) (Kd.int .i64))).C w A n xs) (i : Nat) (hi : i < n) : ∃ ad, A = some ad ∧ ∃ A0 c0, (xs.getD i ((0, [], 0) : Int × List Int × Int)).2.1.length ≤ c0 ∧ (Kd.int .u8).C w A0 (xs.getD i ((0, [], 0) : Int × List Int × Int)).2.1.length (xs.getD i ((0, [], 0) : Int × List Int × Int)).2.1 ∧
    ∀ (j : Nat) (u : Value), [Value.int .i64 (xs.getD i ((0, [], 0) : Int × List Int × Int)).1, .slice A0 (xs.getD i ((0, [], 0) : Int × List Int × Int)).2.1.length c0, .int .i64 (xs.getD i ((0, [], 0) : Int × List Int × Int)).2.2][j]? = some u → w.cell? (ad.add (i * 3 + j)) = some u := by
  obtain ⟨ad, c, e, _, hK, hc0⟩ := Kd.C_get h ((0, [], 0) : Int × List Int × Int) (i : Int) (by omega) (by omega)
  have hc : ∀ (j : Nat) (u : Value), c[j]? = some u → w.cell? (ad.add (i * 3 + j)) = some u := hc0
  obtain ⟨_, _, rfl, rfl, _, _, rfl, ⟨A0, c0, rfl, l0, g0⟩, rfl⟩ := hK
  exact ⟨ad, e, A0, c0, l0, g0, fun j u hu => hc j u hu⟩
theorem run_quo_nat {t : TypeId} (n m : Nat) (hm : 0 < m) (hn : n ≤ 9223372036854775807) (w : World) : (binOp .quo t (.int .i64 ((n : Nat) : Int)) (.int .i64 ((m : Nat) : Int))).run Try.prog w = .ok (.int .i64 ((n / m : Nat) : Int)) w := by
  have h0 : ((m : Nat) : Int) ≠ 0 := by omega
  have h1 : Int.tdiv (n : Int) (m : Int) = ((n / m : Nat) : Int) := by rw [Int.tdiv_eq_ediv_of_nonneg (by omega)]; rfl
  have h2 : n / m ≤ n := Nat.div_le_self _ _
  have h3 : wrap64 ((n / m : Nat) : Int) = ((n / m : Nat) : Int) := by
    generalize n / m = q at h2
    exact wrap_id (by omega) (by omega)
  have h4 : wrap64 ((n : Int) / (m : Int)) = (n : Int) / (m : Int) := h3
  have h5 : ¬ m = 0 := by omega
  simp only [binOp, go_sem, i64_w]
  simp [h0, h1, h4, h5, i64_w]
set_option maxHeartbeats 4000000 in
theorem arm_neg (w : World) (g : Nat) (k : Int) (cK : decide (k < 0) = true) :
    Calls Try.prog 20 #[.pointer (some ⟨g, 0, none⟩), .int .i64 k] w fun e w' => e = .returned (errT (some 1)) ∧ Below w.heap.size w w' := by
  refine calls_flow Try.func20 rfl 17 rfl (Nat.le_of_ble_eq_true rfl) [(0, .pointer (some ⟨g, 0, none⟩)), (1, .int .i64 k)] ?_ ?_
  · intro t v h; exact args_look rfl t v h
  refine w_seq ?_
  refine w_region ?_
  refine rw_val (v := .nilIface) (w' := w) rfl rfl rfl rfl rfl ?_
  refine rw_end ?_
  refine w_seq ?_
  refine w_seq ?_
  refine w_region ?_
  refine rw_val (v := .pointer (some ⟨g, 0, none⟩)) (w' := w) rfl rfl rfl rfl rfl ?_
  refine rw_val (v := .bool false) (w' := w) rfl rfl rfl rfl (run_as (run_ptr_eql (e := 60) (by kernel_rfl) _ _)) ?_
  refine rw_val (v := .bool false) (w' := w) rfl rfl rfl rfl rfl ?_
  refine rw_on (c := false) rfl rfl rfl rfl ?_
  refine rw_val (v := .int .i64 k) (w' := w) rfl rfl rfl rfl rfl ?_
  refine rw_on (c := false) rfl rfl rfl rfl ?_
  refine rw_val (v := .bool (decide (k < 0))) (w' := w) rfl rfl rfl rfl (by simp [go_sem, sEv, sLook, nbeq, i64_w, -List.getD_eq_getElem?_getD]) ?_
  refine rw_val (v := .bool (decide (k < 0))) (w' := w) rfl rfl rfl rfl (by simp [go_sem, sEv, sLook, nbeq, i64_w, -List.getD_eq_getElem?_getD]) ?_
  refine rw_end ?_
  refine w_weaken (G' := [(0, .pointer (some ⟨g, 0, none⟩)), (1, .int .i64 k), (4, .nilIface), (10, .bool (decide (k < 0)))]) ⟨rfl, rfl, rfl, rfl, trivial⟩ ?_
  refine w_cond_t rfl rfl cK ?_
  refine w_seq ?_
  refine w_region ?_
  refine rw_val (v := errT (some 1)) (w' := w) rfl rfl rfl rfl (by simp [go_sem, sEv, sLook, nbeq, i64_w, -List.getD_eq_getElem?_getD, errT]) ?_
  refine rw_val (v := errT (some 1)) (w' := w) rfl rfl rfl rfl rfl ?_
  refine rw_end ?_
  refine w_ret (post_ret1 rfl rfl ?_)
  exact ⟨rfl, (Below.refl _ _)⟩
set_option maxHeartbeats 4000000 in
theorem fail_neg (w : World) (g : Nat) (k : Int) (cK : decide (k < 0) = true) :
    Calls Try.prog 21 #[.pointer (some ⟨g, 0, none⟩), .int .i64 k] w fun e w' => e = .returned (errT (some 1)) ∧ Below w.heap.size w w' := by
  refine calls_flow Try.func21 rfl 17 rfl (Nat.le_of_ble_eq_true rfl) [(0, .pointer (some ⟨g, 0, none⟩)), (1, .int .i64 k)] ?_ ?_
  · intro t v h; exact args_look rfl t v h
  refine w_seq ?_
  refine w_region ?_
  refine rw_val (v := .nilIface) (w' := w) rfl rfl rfl rfl rfl ?_
  refine rw_end ?_
  refine w_seq ?_
  refine w_seq ?_
  refine w_region ?_
  refine rw_val (v := .pointer (some ⟨g, 0, none⟩)) (w' := w) rfl rfl rfl rfl rfl ?_
  refine rw_val (v := .bool false) (w' := w) rfl rfl rfl rfl (run_as (run_ptr_eql (e := 60) (by kernel_rfl) _ _)) ?_
  refine rw_val (v := .bool false) (w' := w) rfl rfl rfl rfl rfl ?_
  refine rw_on (c := false) rfl rfl rfl rfl ?_
  refine rw_val (v := .int .i64 k) (w' := w) rfl rfl rfl rfl rfl ?_
  refine rw_on (c := false) rfl rfl rfl rfl ?_
  refine rw_val (v := .bool (decide (k < 0))) (w' := w) rfl rfl rfl rfl (by simp [go_sem, sEv, sLook, nbeq, i64_w, -List.getD_eq_getElem?_getD]) ?_
  refine rw_val (v := .bool (decide (k < 0))) (w' := w) rfl rfl rfl rfl (by simp [go_sem, sEv, sLook, nbeq, i64_w, -List.getD_eq_getElem?_getD]) ?_
  refine rw_end ?_
  refine w_weaken (G' := [(0, .pointer (some ⟨g, 0, none⟩)), (1, .int .i64 k), (4, .nilIface), (10, .bool (decide (k < 0)))]) ⟨rfl, rfl, rfl, rfl, trivial⟩ ?_
  refine w_cond_t rfl rfl cK ?_
  refine w_seq ?_
  refine w_region ?_
  refine rw_val (v := errT (some 1)) (w' := w) rfl rfl rfl rfl (by simp [go_sem, sEv, sLook, nbeq, i64_w, -List.getD_eq_getElem?_getD, errT]) ?_
  refine rw_val (v := errT (some 1)) (w' := w) rfl rfl rfl rfl rfl ?_
  refine rw_end ?_
  refine w_ret (post_ret1 rfl rfl ?_)
  exact ⟨rfl, (Below.refl _ _)⟩

theorem take_snocO (l : List (Int × List Int × Int)) (j : Nat) (h : j < l.length) : l.take (j + 1) = l.take j ++ [l.getD j ((0, [], 0) : Int × List Int × Int)] := by
  rw [List.take_succ_eq_append_getElem h, List.getD_eq_getElem?_getD, List.getElem?_eq_getElem h]
  rfl
set_option maxHeartbeats 4000000 in
theorem long_calls (w : World) (A1 : Option Addr) (c1 : Nat) (sc : List (Int × List Int × Int)) (hsc : (Kd.pair (Kd.int .i64) (Kd.pair (Kd.slice 5 (Kd.int .u8)) (Kd.int .i64))).C w A1 sc.length sc) (hcs : sc.length ≤ c1) (hln : sc.length ≤ 140737488355328) :
    Calls Try.prog 25 #[.slice A1 sc.length c1] w fun e w' => ∃ b : Bool, e = .returned (.bool b) ∧ (b = false → sc.length ≤ 500 ∧ ∀ o ∈ sc, o.2.1.length ≤ 16384) ∧ Below w.heap.size w w' := by
  refine calls_flow Try.func25 rfl 26 rfl (Nat.le_of_ble_eq_true rfl) [(0, .slice A1 sc.length c1)] ?_ ?_
  · intro t v h; exact args_look rfl t v h
  refine w_seq ?_
  refine w_region ?_
  refine rw_val (v := .bool false) (w' := w) rfl rfl rfl rfl rfl ?_
  refine rw_end ?_
  refine w_seq ?_
  refine w_region ?_
  refine rw_val (v := .int .i64 0) (w' := w) rfl rfl rfl rfl rfl ?_
  refine rw_end ?_
  refine w_seq ?_
  refine w_seq ?_
  refine w_region ?_
  refine rw_val (v := .slice A1 sc.length c1) (w' := w) rfl rfl rfl rfl rfl ?_
  refine rw_val (v := .int .i64 ((sc.length : Nat) : Int)) (w' := w) rfl rfl rfl rfl (by simp [go_sem, sEv, sLook, nbeq, i64_w, -List.getD_eq_getElem?_getD]) ?_
  refine rw_val (v := .int .i64 0) (w' := w) rfl rfl rfl rfl rfl ?_
  refine rw_end ?_
  refine w_block ?_
  refine w_loop (fun m_ G W_ => ∃ (j : Nat) (nn : Int), j + m_ = sc.length ∧ (j : Int) ≤ nn ∧ nn ≤ 65 * (j : Int) ∧ Below w.heap.size w W_ ∧ (∀ o ∈ sc.take j, o.2.1.length ≤ 16384) ∧ G = [(0, .slice A1 sc.length c1), (3, .int .i64 nn), (6, .slice A1 sc.length c1), (7, .int .i64 ((sc.length : Nat) : Int)), (8, .int .i64 ((j : Nat) : Int))]) sc.length [(0, .slice A1 sc.length c1), (3, .int .i64 0), (6, .slice A1 sc.length c1), (7, .int .i64 ((sc.length : Nat) : Int)), (8, .int .i64 0)] ⟨0, 0, by omega, by omega, by omega, (Below.refl _ _), (by simp), rfl⟩ ⟨rfl, rfl, rfl, rfl, rfl, trivial⟩ ?_
  rintro m_ G w_L1 ⟨j, nn, hp2, hp3, hp4, hB_L1, hf5, rfl⟩
  have hs_w_L1 := hB_L1.size
  refine w_seq ?_
  refine w_region ?_
  refine rw_val (v := .bool (decide (((j : Nat) : Int) < ((sc.length : Nat) : Int)))) (w' := w_L1) rfl rfl rfl rfl (by simp [go_sem, sEv, sLook, nbeq, i64_w, -List.getD_eq_getElem?_getD]) ?_
  refine rw_end ?_
  refine w_seq ?_
  refine w_cond rfl rfl (fun cJ => ?_) (fun cJ => ?_)
  · have l6 : (((j : Nat) : Int) < ((sc.length : Nat) : Int)) := of_decide_eq_true cJ
    refine w_skip ?_
    refine w_seq ?_
    refine w_block ?_
    refine w_seq ?_
    refine w_region ?_
    obtain ⟨ad7, hA8, A10, c11, hle12, hC13, hc9⟩ := ops_at (Kd.C_below hsc hB_L1) j (by first | omega | decide)
    subst hA8
    have he14 : w_L1.cell? (ad7.add (j * 3)) = some (.int .i64 ((sc.getD j ((0, [], 0) : Int × List Int × Int)).1)) := cell_0 (hc9 0 _ rfl)
    have he15 : w_L1.cell? ⟨(ad7.add (j * 3)).block, (ad7.add (j * 3)).off + 1, none⟩ = some (.slice A10 ((sc.getD j ((0, [], 0) : Int × List Int × Int)).2.1.length) c11) := cell_j (hc9 1 _ rfl)
    have he16 : w_L1.cell? ⟨(ad7.add (j * 3)).block, (ad7.add (j * 3)).off + 2, none⟩ = some (.int .i64 ((sc.getD j ((0, [], 0) : Int × List Int × Int)).2.2)) := cell_j (hc9 2 _ rfl)
    refine rw_val (v := .pointer (some (ad7.add (j * 3)))) (w' := w_L1) rfl rfl rfl rfl (run_as (run_at_k (P := Try.prog) (e := 53) (sz := 3) (by kernel_rfl) (by kernel_rfl) j (by first | omega | decide) _)) ?_
    refine rw_val (v := .agg #[.int .i64 ((sc.getD j ((0, [], 0) : Int × List Int × Int)).1), .slice A10 ((sc.getD j ((0, [], 0) : Int × List Int × Int)).2.1.length) c11, .int .i64 ((sc.getD j ((0, [], 0) : Int × List Int × Int)).2.2)]) (w' := w_L1) rfl rfl rfl rfl (by have e0_ := cellOn he14 (Below.refl _ _); have e1_ := cellOn he15 (Below.refl _ _); have e2_ := cellOn he16 (Below.refl _ _); simp [go_sem, sEv, sLook, nbeq, i64_w, -List.getD_eq_getElem?_getD, e0_, e1_, e2_, Try.underlying53]) ?_
    refine rw_new (cs := #[.int .i64 0, .slice none 0 0, .int .i64 0]) (t := 53) (fun g => .pointer (some ⟨g, 0, none⟩)) rfl rfl rfl rfl (by kernel_rfl) ?_
    intro g17 w18 hg22 hz21 hb19 hk20
    have hs_w18 := hb19.size
    have hb26 := hk20
    refine rw_store (g := g17) (i := 0) (l := [.int .i64 ((sc.getD j ((0, [], 0) : Int × List Int × Int)).1), .slice A10 ((sc.getD j ((0, [], 0) : Int × List Int × Int)).2.1.length) c11, .int .i64 ((sc.getD j ((0, [], 0) : Int × List Int × Int)).2.2)]) (cs' := #[.int .i64 ((sc.getD j ((0, [], 0) : Int × List Int × Int)).1), .slice A10 ((sc.getD j ((0, [], 0) : Int × List Int × Int)).2.1.length) c11, .int .i64 ((sc.getD j ((0, [], 0) : Int × List Int × Int)).2.2)]) rfl rfl rfl hb26 rfl (by have e0_ := hb26.cellv (i := 0) (v := (.int .i64 0 : Value)) rfl; have f0_ := hb26.frozen 0; have e1_ := hb26.cellv (i := 1) (v := (.slice none 0 0 : Value)) rfl; have f1_ := hb26.frozen 1; have e2_ := hb26.cellv (i := 2) (v := (.int .i64 0 : Value)) rfl; have f2_ := hb26.frozen 2; simp [go_sem, sEv, sLook, nbeq, i64_w, -List.getD_eq_getElem?_getD, putCells, e0_, f0_, e1_, f1_, e2_, f2_, Try.underlying53]) ?_
    intro w23 hk24 hk25
    have hs_w23 := hk24.size
    refine rw_end ?_
    refine w_weaken (G' := [(0, .slice (some ad7) sc.length c1), (3, .int .i64 nn), (5, .pointer (some ⟨g17, 0, none⟩)), (6, .slice (some ad7) sc.length c1), (7, .int .i64 ((sc.length : Nat) : Int)), (8, .int .i64 ((j : Nat) : Int))]) ⟨rfl, rfl, rfl, rfl, rfl, rfl, trivial⟩ ?_
    refine w_seq ?_
    refine w_seq ?_
    refine w_region ?_
    refine rw_val (v := .pointer (some ⟨g17, 1, none⟩)) (w' := w23) rfl rfl rfl rfl (by simp [go_sem, sEv, sLook, nbeq, i64_w, -List.getD_eq_getElem?_getD, Try.underlying53]) ?_
    refine rw_val (v := .slice A10 ((sc.getD j ((0, [], 0) : Int × List Int × Int)).2.1.length) c11) (w' := w23) rfl rfl rfl rfl (by have eb_ := hk25; have e0_ := eb_.cellv (i := 1) (v := (.slice A10 ((sc.getD j ((0, [], 0) : Int × List Int × Int)).2.1.length) c11 : Value)) rfl; simp [go_sem, sEv, sLook, nbeq, i64_w, -List.getD_eq_getElem?_getD, e0_, Try.underlying27]) ?_
    refine rw_val (v := .int .i64 (((sc.getD j ((0, [], 0) : Int × List Int × Int)).2.1.length : Nat) : Int)) (w' := w23) rfl rfl rfl rfl (by simp [go_sem, sEv, sLook, nbeq, i64_w, -List.getD_eq_getElem?_getD]) ?_
    refine rw_val (v := .bool (decide (16384 < (((sc.getD j ((0, [], 0) : Int × List Int × Int)).2.1.length : Nat) : Int)))) (w' := w23) rfl rfl rfl rfl (by simp [go_sem, sEv, sLook, nbeq, i64_w, -List.getD_eq_getElem?_getD]) ?_
    refine rw_end ?_
    refine w_weaken (G' := [(0, .slice (some ad7) sc.length c1), (3, .int .i64 nn), (5, .pointer (some ⟨g17, 0, none⟩)), (6, .slice (some ad7) sc.length c1), (7, .int .i64 ((sc.length : Nat) : Int)), (8, .int .i64 ((j : Nat) : Int)), (15, .bool (decide (16384 < (((sc.getD j ((0, [], 0) : Int × List Int × Int)).2.1.length : Nat) : Int))))]) ⟨rfl, rfl, rfl, rfl, rfl, rfl, rfl, trivial⟩ ?_
    refine w_cond rfl rfl (fun cB => ?_) (fun cB => ?_)
    · have l27 : (16384 < (((sc.getD j ((0, [], 0) : Int × List Int × Int)).2.1.length : Nat) : Int)) := of_decide_eq_true cB
      refine w_seq ?_
      refine w_region ?_
      refine rw_val (v := .bool true) (w' := w23) rfl rfl rfl rfl rfl ?_
      refine rw_end ?_
      refine w_ret (post_ret1 rfl rfl ?_)
      exact ⟨_, rfl, (fun h => by cases h), (hk24.below (by omega) (chain hB_L1 hb19))⟩
    · have l28 : ¬ (16384 < (((sc.getD j ((0, [], 0) : Int × List Int × Int)).2.1.length : Nat) : Int)) := of_decide_eq_false cB
      refine w_skip ?_
      refine w_region ?_
      refine rw_val (v := .int .i64 nn) (w' := w23) rfl rfl rfl rfl rfl ?_
      refine rw_val (v := .pointer (some ⟨g17, 1, none⟩)) (w' := w23) rfl rfl rfl rfl (by simp [go_sem, sEv, sLook, nbeq, i64_w, -List.getD_eq_getElem?_getD, Try.underlying53]) ?_
      refine rw_val (v := .slice A10 ((sc.getD j ((0, [], 0) : Int × List Int × Int)).2.1.length) c11) (w' := w23) rfl rfl rfl rfl (by have eb_ := hk25; have e0_ := eb_.cellv (i := 1) (v := (.slice A10 ((sc.getD j ((0, [], 0) : Int × List Int × Int)).2.1.length) c11 : Value)) rfl; simp [go_sem, sEv, sLook, nbeq, i64_w, -List.getD_eq_getElem?_getD, e0_, Try.underlying27]) ?_
      refine rw_val (v := .int .i64 (((sc.getD j ((0, [], 0) : Int × List Int × Int)).2.1.length : Nat) : Int)) (w' := w23) rfl rfl rfl rfl (by simp [go_sem, sEv, sLook, nbeq, i64_w, -List.getD_eq_getElem?_getD]) ?_
      refine rw_val (v := .int .i64 ((((sc.getD j ((0, [], 0) : Int × List Int × Int)).2.1.length) / 256 : Nat) : Int)) (w' := w23) rfl rfl rfl rfl (run_as (run_quo_nat (t := 3) ((sc.getD j ((0, [], 0) : Int × List Int × Int)).2.1.length) 256 (by decide) (by omega) _)) ?_
      refine rw_val (v := .int .i64 ((1 + (((sc.getD j ((0, [], 0) : Int × List Int × Int)).2.1.length) / 256) : Nat) : Int)) (w' := w23) rfl rfl rfl rfl (by simp [go_sem, sEv, sLook, nbeq, i64_w, -List.getD_eq_getElem?_getD]; exact wrap_id (by omega) (by omega)) ?_
      refine rw_val (v := .int .i64 (nn + ((1 + (((sc.getD j ((0, [], 0) : Int × List Int × Int)).2.1.length) / 256) : Nat) : Int))) (w' := w23) rfl rfl rfl rfl (by simp [go_sem, sEv, sLook, nbeq, i64_w, -List.getD_eq_getElem?_getD]; exact wrap_id (by omega) (by omega)) ?_
      refine rw_val (v := .int .i64 (nn + ((1 + (((sc.getD j ((0, [], 0) : Int × List Int × Int)).2.1.length) / 256) : Nat) : Int))) (w' := w23) rfl rfl rfl rfl rfl ?_
      refine rw_end ?_
      refine w_weaken (G' := [(0, .slice (some ad7) sc.length c1), (3, .int .i64 (nn + ((1 + (((sc.getD j ((0, [], 0) : Int × List Int × Int)).2.1.length) / 256) : Nat) : Int))), (6, .slice (some ad7) sc.length c1), (7, .int .i64 ((sc.length : Nat) : Int)), (8, .int .i64 ((j : Nat) : Int))]) ⟨rfl, rfl, rfl, rfl, rfl, trivial⟩ ?_
      refine w_blk ?_
      refine w_region ?_
      refine rw_val (v := .int .i64 ((j + 1 : Nat) : Int)) (w' := w23) rfl rfl rfl rfl (by simp [go_sem, sEv, sLook, nbeq, i64_w, -List.getD_eq_getElem?_getD]; exact wrap_id (by omega) (by omega)) ?_
      refine rw_val (v := .int .i64 ((j + 1 : Nat) : Int)) (w' := w23) rfl rfl rfl rfl rfl ?_
      refine rw_end ?_
      exact w_back (m_ - 1) [(0, .slice (some ad7) sc.length c1), (3, .int .i64 (nn + ((1 + (((sc.getD j ((0, [], 0) : Int × List Int × Int)).2.1.length) / 256) : Nat) : Int))), (6, .slice (some ad7) sc.length c1), (7, .int .i64 ((sc.length : Nat) : Int)), (8, .int .i64 ((j + 1 : Nat) : Int))] (by omega) ⟨rfl, rfl, rfl, rfl, rfl, trivial⟩ ⟨(j + 1), (nn + ((1 + (((sc.getD j ((0, [], 0) : Int × List Int × Int)).2.1.length) / 256) : Nat) : Int)), by omega, by omega, by omega, (hk24.below (by omega) (chain hB_L1 hb19)), (by intro o ho; rw [take_snocO sc j (by omega)] at ho; rcases List.mem_append.1 ho with ho | ho; exact hf5 o ho; rw [List.mem_singleton.1 ho]; omega), rfl⟩
  · have l29 : ¬ (((j : Nat) : Int) < ((sc.length : Nat) : Int)) := of_decide_eq_false cJ
    refine w_exit rfl ?_
    refine w_seq ?_
    refine w_region ?_
    refine rw_val (v := .int .i64 nn) (w' := w_L1) rfl rfl rfl rfl rfl ?_
    refine rw_val (v := .bool (decide (500 < nn))) (w' := w_L1) rfl rfl rfl rfl (by simp [go_sem, sEv, sLook, nbeq, i64_w, -List.getD_eq_getElem?_getD]) ?_
    refine rw_val (v := .bool (decide (500 < nn))) (w' := w_L1) rfl rfl rfl rfl rfl ?_
    refine rw_end ?_
    refine w_ret (post_ret1 rfl rfl ?_)
    exact ⟨_, rfl, (fun h => by have h2_ := of_decide_eq_false h; have ej_ : j = sc.length := (by omega); exact ⟨by omega, fun o ho => hf5 o (by rw [ej_, List.take_length]; exact ho)⟩), hB_L1⟩
end Go.Proofs.Ytpbpeklbmmbigaa.Tp
