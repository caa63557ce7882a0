/- Parts of the proofs of diaryPlays_holds: DypLong, DypPair, FlowU, DyCuts0, FlowUB. -/
import Derived.Test.YtiiljpaedelhlaaQP4
section
namespace Go.Proofs.Ytiiljpaedelhlaa.Tp
open Go.RowKit Go.Proofs.YtiiljpaedelhlaaW.PrintWords Go.Proofs.YtiiljpaedelhlaaW.PrintLast Go.Proofs.YtiiljpaedelhlaaW.PrintMore
open Go.Proofs.Ytiiljpaedelhlaa.Flow
open Go.Proofs.Ytiiljpaedelhlaa.PDiaryPlays (SplitR Bytes frameB frameE FC wholeP frameB_len frameB_bytes FC_cons errN refsplit_calls)
set_option linter.unusedVariables false
set_option linter.unusedSimpArgs false
theorem ops_at {w : World} {A : Option Addr} {n : Nat} {xs : List (Int × List Int × List (List Int) × Int)} (h : (Kd.pair (Kd.int .i64) (Kd.pair (Kd.slice 5 (Kd.int .u8)) (Kd.pair (Kd.slice 32 (Kd.slice 5 (Kd.int .u8))) (Kd.int .i64)))).C w A n xs) (i : Nat) (hi : i < n) : ∃ ad, A = some ad ∧ ∃ kd row rows nn A0 c0 A1 c1, xs.getD i ((0, [], [], 0) : Int × List Int × List (List Int) × Int) = (kd, row, rows, nn) ∧ row.length ≤ c0 ∧ (Kd.int .u8).C w A0 row.length row ∧ rows.length ≤ c1 ∧ (Kd.slice 5 (Kd.int .u8)).C w A1 rows.length rows ∧
    ∀ (j : Nat) (u : Value), [Value.int .i64 kd, .slice A0 row.length c0, .slice A1 rows.length c1, .int .i64 nn][j]? = some u → w.cell? (ad.add (i * 4 + j)) = some u := by
  obtain ⟨ad, c, e, _, hK, hc0⟩ := Kd.C_get h ((0, [], [], 0) : Int × List Int × List (List Int) × Int) (i : Int) (by omega) (by omega)
  have hc : ∀ (j : Nat) (u : Value), c[j]? = some u → w.cell? (ad.add (i * 4 + j)) = some u := hc0
  obtain ⟨_, _, rfl, rfl, _, _, rfl, ⟨A0, c0, rfl, l0, g0⟩, _, _, rfl, ⟨A1, c1, rfl, l1, g1⟩, rfl⟩ := hK
  exact ⟨ad, e, _, _, _, _, A0, c0, A1, c1, rfl, l0, g0, l1, g1, fun j u hu => hc j u hu⟩
theorem run_quo_nat {t : TypeId} (n m : Nat) (hm : 0 < m) (hn : n ≤ 9223372036854775807) (w : World) : (binOp .quo t (.int .i64 ((n : Nat) : Int)) (.int .i64 ((m : Nat) : Int))).run Try.prog w = .ok (.int .i64 ((n / m : Nat) : Int)) w := by
  have h0 : ((m : Nat) : Int) ≠ 0 := by omega
  have h1 : Int.tdiv (n : Int) (m : Int) = ((n / m : Nat) : Int) := by rw [Int.tdiv_eq_ediv_of_nonneg (by omega)]; rfl
  have h2 : n / m ≤ n := Nat.div_le_self _ _
  have h3 : wrap64 ((n / m : Nat) : Int) = ((n / m : Nat) : Int) := by
    generalize n / m = q at h2
    exact wrap_id (by omega) (by omega)
  have h4 : wrap64 ((n : Int) / (m : Int)) = (n : Int) / (m : Int) := h3
  have h5 : ¬ m = 0 := by omega
  simp only [binOp, go_sem, i64_w]
  simp [h0, h1, h4, h5, i64_w]
theorem mem_getD {α : Type} (l : List α) (j : Nat) (z : α) (h : j < l.length) : l.getD j z ∈ l := by
  rw [List.getD_eq_getElem?_getD, List.getElem?_eq_getElem h]
  exact List.getElem_mem h
theorem take_snocO (l : List (Int × List Int × List (List Int) × Int)) (j : Nat) (h : j < l.length) : l.take (j + 1) = l.take j ++ [l.getD j ((0, [], [], 0) : Int × List Int × List (List Int) × Int)] := by
  rw [List.take_succ_eq_append_getElem h, List.getD_eq_getElem?_getD, List.getElem?_eq_getElem h]
  rfl
set_option maxHeartbeats 4000000 in
theorem long_calls (w : World) (A1 : Option Addr) (c1 : Nat) (sc : List (Int × List Int × List (List Int) × Int)) (hsc : (Kd.pair (Kd.int .i64) (Kd.pair (Kd.slice 5 (Kd.int .u8)) (Kd.pair (Kd.slice 32 (Kd.slice 5 (Kd.int .u8))) (Kd.int .i64)))).C w A1 sc.length sc) (hcs : sc.length ≤ c1) (hln : sc.length ≤ 140737488355328) (hlr : ∀ o ∈ sc, o.2.1.length ≤ 140737488355328 ∧ o.2.2.1.length ≤ 6000000000000 ∧ ∀ p ∈ o.2.2.1, p.length ≤ 140737488355328) :
    Calls Try.prog 25 #[.slice A1 sc.length c1] w fun e w' => ∃ b : Bool, e = .returned (.bool b) ∧ (b = false → ∀ o ∈ sc, o.2.1.length ≤ 20000) ∧ Below w.heap.size w w' := by
  refine calls_flow Try.func25 rfl 44 rfl (Nat.le_of_ble_eq_true rfl) [(0, .slice A1 sc.length c1)] ?_ ?_
  · intro t v h; exact args_look rfl t v h
  refine w_seq ?_
  refine w_region ?_
  refine rw_val (v := .bool false) (w' := w) rfl rfl rfl rfl rfl ?_
  refine rw_end ?_
  refine w_seq ?_
  refine w_region ?_
  refine rw_val (v := .int .i64 0) (w' := w) rfl rfl rfl rfl rfl ?_
  refine rw_end ?_
  refine w_seq ?_
  refine w_seq ?_
  refine w_region ?_
  refine rw_val (v := .slice A1 sc.length c1) (w' := w) rfl rfl rfl rfl rfl ?_
  refine rw_val (v := .int .i64 ((sc.length : Nat) : Int)) (w' := w) rfl rfl rfl rfl (by simp [go_sem, sEv, sLook, nbeq, i64_w, -List.getD_eq_getElem?_getD]) ?_
  refine rw_val (v := .int .i64 0) (w' := w) rfl rfl rfl rfl rfl ?_
  refine rw_end ?_
  refine w_block ?_
  refine w_loop (fun m_ G W_ => ∃ (j : Nat) (n1 : Int), j + m_ = sc.length ∧ Below w.heap.size w W_ ∧ (∀ o ∈ sc.take j, o.2.1.length ≤ 20000) ∧ G = [(3, .int .i64 n1), (8, .slice A1 sc.length c1), (9, .int .i64 ((sc.length : Nat) : Int)), (10, .int .i64 ((j : Nat) : Int))]) sc.length [(3, .int .i64 0), (8, .slice A1 sc.length c1), (9, .int .i64 ((sc.length : Nat) : Int)), (10, .int .i64 0)] ⟨0, 0, by omega, (Below.refl _ _), (by simp), rfl⟩ ⟨rfl, rfl, rfl, rfl, trivial⟩ ?_
  rintro m_ G w_L1 ⟨j, n1, hp2, hB_L1, hf3, rfl⟩
  have hs_w_L1 := hB_L1.size
  refine w_seq ?_
  refine w_region ?_
  refine rw_val (v := .bool (decide (((j : Nat) : Int) < ((sc.length : Nat) : Int)))) (w' := w_L1) rfl rfl rfl rfl (by simp [go_sem, sEv, sLook, nbeq, i64_w, -List.getD_eq_getElem?_getD]) ?_
  refine rw_end ?_
  refine w_seq ?_
  refine w_cond rfl rfl (fun cJ => ?_) (fun cJ => ?_)
  · have l4 : (((j : Nat) : Int) < ((sc.length : Nat) : Int)) := of_decide_eq_true cJ
    refine w_skip ?_
    refine w_seq ?_
    refine w_block ?_
    refine w_seq ?_
    refine w_region ?_
    obtain ⟨ad5, hA6, kd, row, rows, nn, A8, c9, A10, c11, hel16, hle12, hC13, hle14, hC15, hc7⟩ := ops_at (Kd.C_below hsc hB_L1) j (by first | omega | decide)
    subst hA6
    have he17 : w_L1.cell? (ad5.add (j * 4)) = some (.int .i64 kd) := cell_0 (hc7 0 _ rfl)
    have he18 : w_L1.cell? ⟨(ad5.add (j * 4)).block, (ad5.add (j * 4)).off + 1, none⟩ = some (.slice A8 row.length c9) := cell_j (hc7 1 _ rfl)
    have he19 : w_L1.cell? ⟨(ad5.add (j * 4)).block, (ad5.add (j * 4)).off + 2, none⟩ = some (.slice A10 rows.length c11) := cell_j (hc7 2 _ rfl)
    have he20 : w_L1.cell? ⟨(ad5.add (j * 4)).block, (ad5.add (j * 4)).off + 3, none⟩ = some (.int .i64 nn) := cell_j (hc7 3 _ rfl)
    refine rw_val (v := .pointer (some (ad5.add (j * 4)))) (w' := w_L1) rfl rfl rfl rfl (run_as (run_at_k (P := Try.prog) (e := 64) (sz := 4) (by kernel_rfl) (by kernel_rfl) j (by first | omega | decide) _)) ?_
    refine rw_val (v := .agg #[.int .i64 kd, .slice A8 row.length c9, .slice A10 rows.length c11, .int .i64 nn]) (w' := w_L1) rfl rfl rfl rfl (by have e0_ := cellOn he17 (Below.refl _ _); have e1_ := cellOn he18 (Below.refl _ _); have e2_ := cellOn he19 (Below.refl _ _); have e3_ := cellOn he20 (Below.refl _ _); simp [go_sem, sEv, sLook, nbeq, i64_w, -List.getD_eq_getElem?_getD, e0_, e1_, e2_, e3_, Try.underlying64]) ?_
    refine rw_new (cs := #[.int .i64 0, .slice none 0 0, .slice none 0 0, .int .i64 0]) (t := 64) (fun g => .pointer (some ⟨g, 0, none⟩)) rfl rfl rfl rfl (by kernel_rfl) ?_
    intro g21 w22 hg26 hz25 hb23 hk24
    have hs_w22 := hb23.size
    have hb30 := hk24
    refine rw_store (g := g21) (i := 0) (l := [.int .i64 kd, .slice A8 row.length c9, .slice A10 rows.length c11, .int .i64 nn]) (cs' := #[.int .i64 kd, .slice A8 row.length c9, .slice A10 rows.length c11, .int .i64 nn]) rfl rfl rfl hb30 rfl (by have e0_ := hb30.cellv (i := 0) (v := (.int .i64 0 : Value)) rfl; have f0_ := hb30.frozen 0; have e1_ := hb30.cellv (i := 1) (v := (.slice none 0 0 : Value)) rfl; have f1_ := hb30.frozen 1; have e2_ := hb30.cellv (i := 2) (v := (.slice none 0 0 : Value)) rfl; have f2_ := hb30.frozen 2; have e3_ := hb30.cellv (i := 3) (v := (.int .i64 0 : Value)) rfl; have f3_ := hb30.frozen 3; simp [go_sem, sEv, sLook, nbeq, i64_w, -List.getD_eq_getElem?_getD, putCells, e0_, f0_, e1_, f1_, e2_, f2_, e3_, f3_, Try.underlying64]) ?_
    intro w27 hk28 hk29
    have hs_w27 := hk28.size
    refine rw_end ?_
    refine w_weaken (G' := [(3, .int .i64 n1), (5, .pointer (some ⟨g21, 0, none⟩)), (8, .slice (some ad5) sc.length c1), (9, .int .i64 ((sc.length : Nat) : Int)), (10, .int .i64 ((j : Nat) : Int))]) ⟨rfl, rfl, rfl, rfl, rfl, trivial⟩ ?_
    refine w_seq ?_
    refine w_region ?_
    have hm_ := hel16 ▸ mem_getD sc j ((0, [], [], 0) : Int × List Int × List (List Int) × Int) (by omega)
    have hl_ := hlr _ hm_
    have hl0_ : row.length ≤ 140737488355328 := hl_.1
    have hl1_ : rows.length ≤ 6000000000000 := hl_.2.1
    have hl2_ : ∀ p ∈ rows, p.length ≤ 140737488355328 := hl_.2.2
    refine rw_val (v := .int .i64 n1) (w' := w27) rfl rfl rfl rfl rfl ?_
    refine rw_val (v := .pointer (some ⟨g21, 1, none⟩)) (w' := w27) rfl rfl rfl rfl (by simp [go_sem, sEv, sLook, nbeq, i64_w, -List.getD_eq_getElem?_getD, Try.underlying64]) ?_
    refine rw_val (v := .slice A8 row.length c9) (w' := w27) rfl rfl rfl rfl (by have eb_ := hk29; have e0_ := eb_.cellv (i := 1) (v := (.slice A8 row.length c9 : Value)) rfl; simp [go_sem, sEv, sLook, nbeq, i64_w, -List.getD_eq_getElem?_getD, e0_, Try.underlying32]) ?_
    refine rw_val (v := .int .i64 ((row.length : Nat) : Int)) (w' := w27) rfl rfl rfl rfl (by simp [go_sem, sEv, sLook, nbeq, i64_w, -List.getD_eq_getElem?_getD]) ?_
    refine rw_val (v := .int .i64 ((row.length / 200 : Nat) : Int)) (w' := w27) rfl rfl rfl rfl (run_as (run_quo_nat (t := 3) row.length 200 (by decide) (by omega) _)) ?_
    refine rw_val (v := .int .i64 ((1 + (row.length / 200) : Nat) : Int)) (w' := w27) rfl rfl rfl rfl (by simp [go_sem, sEv, sLook, nbeq, i64_w, -List.getD_eq_getElem?_getD]; exact wrap_id (by omega) (by omega)) ?_
    refine rw_val (v := .int .i64 (wrap64 (n1 + ((1 + (row.length / 200) : Nat) : Int)))) (w' := w27) rfl rfl rfl rfl (by simp [go_sem, sEv, sLook, nbeq, i64_w, -List.getD_eq_getElem?_getD]) ?_
    refine rw_val (v := .int .i64 (wrap64 (n1 + ((1 + (row.length / 200) : Nat) : Int)))) (w' := w27) rfl rfl rfl rfl rfl ?_
    refine rw_end ?_
    refine w_weaken (G' := [(3, .int .i64 (wrap64 (n1 + ((1 + (row.length / 200) : Nat) : Int)))), (5, .pointer (some ⟨g21, 0, none⟩)), (8, .slice (some ad5) sc.length c1), (9, .int .i64 ((sc.length : Nat) : Int)), (10, .int .i64 ((j : Nat) : Int))]) ⟨rfl, rfl, rfl, rfl, rfl, trivial⟩ ?_
    refine w_seq ?_
    refine w_seq ?_
    refine w_region ?_
    refine rw_val (v := .pointer (some ⟨g21, 2, none⟩)) (w' := w27) rfl rfl rfl rfl (by simp [go_sem, sEv, sLook, nbeq, i64_w, -List.getD_eq_getElem?_getD, Try.underlying64]) ?_
    refine rw_val (v := .slice A10 rows.length c11) (w' := w27) rfl rfl rfl rfl (by have eb_ := hk29; have e0_ := eb_.cellv (i := 2) (v := (.slice A10 rows.length c11 : Value)) rfl; simp [go_sem, sEv, sLook, nbeq, i64_w, -List.getD_eq_getElem?_getD, e0_, Try.underlying22]) ?_
    refine rw_val (v := .int .i64 ((rows.length : Nat) : Int)) (w' := w27) rfl rfl rfl rfl (by simp [go_sem, sEv, sLook, nbeq, i64_w, -List.getD_eq_getElem?_getD]) ?_
    refine rw_val (v := .int .i64 0) (w' := w27) rfl rfl rfl rfl rfl ?_
    refine rw_end ?_
    refine w_weaken (G' := [(3, .int .i64 (wrap64 (n1 + ((1 + (row.length / 200) : Nat) : Int)))), (5, .pointer (some ⟨g21, 0, none⟩)), (8, .slice (some ad5) sc.length c1), (9, .int .i64 ((sc.length : Nat) : Int)), (10, .int .i64 ((j : Nat) : Int)), (22, .slice A10 rows.length c11), (23, .int .i64 ((rows.length : Nat) : Int)), (24, .int .i64 0)]) ⟨rfl, rfl, rfl, rfl, rfl, rfl, rfl, rfl, trivial⟩ ?_
    refine w_block ?_
    refine w_loop (fun m_ G W_ => ∃ (i : Nat) (n2 : Int), i + m_ = rows.length ∧ Below w27.heap.size w27 W_ ∧ G = [(3, .int .i64 n2), (5, .pointer (some ⟨g21, 0, none⟩)), (8, .slice (some ad5) sc.length c1), (9, .int .i64 ((sc.length : Nat) : Int)), (10, .int .i64 ((j : Nat) : Int)), (22, .slice A10 rows.length c11), (23, .int .i64 ((rows.length : Nat) : Int)), (24, .int .i64 ((i : Nat) : Int))]) rows.length [(3, .int .i64 (wrap64 (n1 + ((1 + (row.length / 200) : Nat) : Int)))), (5, .pointer (some ⟨g21, 0, none⟩)), (8, .slice (some ad5) sc.length c1), (9, .int .i64 ((sc.length : Nat) : Int)), (10, .int .i64 ((j : Nat) : Int)), (22, .slice A10 rows.length c11), (23, .int .i64 ((rows.length : Nat) : Int)), (24, .int .i64 0)] ⟨0, (wrap64 (n1 + ((1 + (row.length / 200) : Nat) : Int))), by omega, (Below.refl _ _), rfl⟩ ⟨rfl, rfl, rfl, rfl, rfl, rfl, rfl, rfl, trivial⟩ ?_
    rintro m2_ G w_L31 ⟨i, n2, hp32, hB_L31, rfl⟩
    have hs_w_L31 := hB_L31.size
    refine w_seq ?_
    refine w_region ?_
    refine rw_val (v := .bool (decide (((i : Nat) : Int) < ((rows.length : Nat) : Int)))) (w' := w_L31) rfl rfl rfl rfl (by simp [go_sem, sEv, sLook, nbeq, i64_w, -List.getD_eq_getElem?_getD]) ?_
    refine rw_end ?_
    refine w_seq ?_
    refine w_cond rfl rfl (fun cI => ?_) (fun cI => ?_)
    · have l33 : (((i : Nat) : Int) < ((rows.length : Nat) : Int)) := of_decide_eq_true cI
      refine w_skip ?_
      refine w_seq ?_
      refine w_block ?_
      refine w_seq ?_
      refine w_region ?_
      obtain ⟨ad34, A37, c38, hA35, he39, hle40, hC41⟩ := rows_at (Kd.C_below hC15 (chain (hk28.below (by omega) hb23) hB_L31)) i (by first | omega | decide)
      subst hA35
      refine rw_val (v := .pointer (some (ad34.add (i)))) (w' := w_L31) rfl rfl rfl rfl (run_as (run_at_1 (P := Try.prog) (e := 32) (by kernel_rfl) (by kernel_rfl) i (by first | omega | decide) _)) ?_
      refine rw_val (v := .slice A37 ((rows.getD i []).length) c38) (w' := w_L31) rfl rfl rfl rfl (by have e0_ := cellOn he39 (Below.refl _ _); simp [go_sem, sEv, sLook, nbeq, i64_w, -List.getD_eq_getElem?_getD, e0_, Try.underlying32]) ?_
      refine rw_val (v := .slice A37 ((rows.getD i []).length) c38) (w' := w_L31) rfl rfl rfl rfl rfl ?_
      refine rw_end ?_
      refine w_region ?_
      have hp_ := hl2_ _ (getD_mem rows i [] (by omega))
      refine rw_val (v := .int .i64 n2) (w' := w_L31) rfl rfl rfl rfl rfl ?_
      refine rw_val (v := .slice A37 ((rows.getD i []).length) c38) (w' := w_L31) rfl rfl rfl rfl rfl ?_
      refine rw_val (v := .int .i64 (((rows.getD i []).length : Nat) : Int)) (w' := w_L31) rfl rfl rfl rfl (by simp [go_sem, sEv, sLook, nbeq, i64_w, -List.getD_eq_getElem?_getD]) ?_
      refine rw_val (v := .int .i64 ((((rows.getD i []).length) / 200 : Nat) : Int)) (w' := w_L31) rfl rfl rfl rfl (run_as (run_quo_nat (t := 3) ((rows.getD i []).length) 200 (by decide) (by omega) _)) ?_
      refine rw_val (v := .int .i64 ((1 + (((rows.getD i []).length) / 200) : Nat) : Int)) (w' := w_L31) rfl rfl rfl rfl (by simp [go_sem, sEv, sLook, nbeq, i64_w, -List.getD_eq_getElem?_getD]; exact wrap_id (by omega) (by omega)) ?_
      refine rw_val (v := .int .i64 (wrap64 (n2 + ((1 + (((rows.getD i []).length) / 200) : Nat) : Int)))) (w' := w_L31) rfl rfl rfl rfl (by simp [go_sem, sEv, sLook, nbeq, i64_w, -List.getD_eq_getElem?_getD]) ?_
      refine rw_val (v := .int .i64 (wrap64 (n2 + ((1 + (((rows.getD i []).length) / 200) : Nat) : Int)))) (w' := w_L31) rfl rfl rfl rfl rfl ?_
      refine rw_end ?_
      refine w_weaken (G' := [(3, .int .i64 (wrap64 (n2 + ((1 + (((rows.getD i []).length) / 200) : Nat) : Int)))), (5, .pointer (some ⟨g21, 0, none⟩)), (8, .slice (some ad5) sc.length c1), (9, .int .i64 ((sc.length : Nat) : Int)), (10, .int .i64 ((j : Nat) : Int)), (22, .slice (some ad34) rows.length c11), (23, .int .i64 ((rows.length : Nat) : Int)), (24, .int .i64 ((i : Nat) : Int))]) ⟨rfl, rfl, rfl, rfl, rfl, rfl, rfl, rfl, trivial⟩ ?_
      refine w_blk ?_
      refine w_region ?_
      refine rw_val (v := .int .i64 ((i + 1 : Nat) : Int)) (w' := w_L31) rfl rfl rfl rfl (by simp [go_sem, sEv, sLook, nbeq, i64_w, -List.getD_eq_getElem?_getD]; exact wrap_id (by omega) (by omega)) ?_
      refine rw_val (v := .int .i64 ((i + 1 : Nat) : Int)) (w' := w_L31) rfl rfl rfl rfl rfl ?_
      refine rw_end ?_
      exact w_back (m2_ - 1) [(3, .int .i64 (wrap64 (n2 + ((1 + (((rows.getD i []).length) / 200) : Nat) : Int)))), (5, .pointer (some ⟨g21, 0, none⟩)), (8, .slice (some ad5) sc.length c1), (9, .int .i64 ((sc.length : Nat) : Int)), (10, .int .i64 ((j : Nat) : Int)), (22, .slice (some ad34) rows.length c11), (23, .int .i64 ((rows.length : Nat) : Int)), (24, .int .i64 ((i + 1 : Nat) : Int))] (by omega) ⟨rfl, rfl, rfl, rfl, rfl, rfl, rfl, rfl, trivial⟩ ⟨(i + 1), (wrap64 (n2 + ((1 + (((rows.getD i []).length) / 200) : Nat) : Int))), by omega, hB_L31, rfl⟩
    · have l42 : ¬ (((i : Nat) : Int) < ((rows.length : Nat) : Int)) := of_decide_eq_false cI
      refine w_exit rfl ?_
      refine w_seq ?_
      refine w_region ?_
      refine rw_val (v := .int .i64 n2) (w' := w_L31) rfl rfl rfl rfl rfl ?_
      refine rw_val (v := .bool (decide (400 < n2))) (w' := w_L31) rfl rfl rfl rfl (by simp [go_sem, sEv, sLook, nbeq, i64_w, -List.getD_eq_getElem?_getD]) ?_
      refine rw_val (v := .bool (decide (400 < n2))) (w' := w_L31) rfl rfl rfl rfl rfl ?_
      rcases bcase (decide (400 < n2)) with cN | cN
      · have l43 : ¬ (400 < n2) := of_decide_eq_false cN
        refine rw_on (c := decide (400 < n2)) rfl rfl rfl (by first | (rw [cN]; rfl) | simp [cN]) ?_
        refine rw_val (v := .pointer (some ⟨g21, 1, none⟩)) (w' := w_L31) rfl rfl rfl rfl (by simp [go_sem, sEv, sLook, nbeq, i64_w, -List.getD_eq_getElem?_getD, Try.underlying64]) ?_
        refine rw_on (c := decide (400 < n2)) rfl rfl rfl (by first | (rw [cN]; rfl) | simp [cN]) ?_
        refine rw_val (v := .slice A8 row.length c9) (w' := w_L31) rfl rfl rfl rfl (by have eb_ := (hk29.on hB_L31); have e0_ := eb_.cellv (i := 1) (v := (.slice A8 row.length c9 : Value)) rfl; simp [go_sem, sEv, sLook, nbeq, i64_w, -List.getD_eq_getElem?_getD, e0_, Try.underlying32]) ?_
        refine rw_on (c := decide (400 < n2)) rfl rfl rfl (by first | (rw [cN]; rfl) | simp [cN]) ?_
        refine rw_val (v := .int .i64 ((row.length : Nat) : Int)) (w' := w_L31) rfl rfl rfl rfl (by simp [go_sem, sEv, sLook, nbeq, i64_w, -List.getD_eq_getElem?_getD]) ?_
        refine rw_on (c := decide (400 < n2)) rfl rfl rfl (by first | (rw [cN]; rfl) | simp [cN]) ?_
        refine rw_val (v := .bool (decide (20000 < ((row.length : Nat) : Int)))) (w' := w_L31) rfl rfl rfl rfl (by simp [go_sem, sEv, sLook, nbeq, i64_w, -List.getD_eq_getElem?_getD]) ?_
        refine rw_val (v := .bool (decide (20000 < ((row.length : Nat) : Int)))) (w' := w_L31) rfl rfl rfl rfl (by first | (simp [go_sem, sEv, sLook, nbeq, i64_w, -List.getD_eq_getElem?_getD, cN]; done) | (rw [cN]; simp [go_sem, sEv, sLook, nbeq, i64_w, -List.getD_eq_getElem?_getD]; done) | (simp [go_sem, sEv, sLook, nbeq, i64_w, -List.getD_eq_getElem?_getD] <;> omega) | (simp [go_sem, sEv, sLook, nbeq, i64_w, -List.getD_eq_getElem?_getD]; intro h_; exact absurd (by omega) h_)) ?_
        refine rw_end ?_
        refine w_weaken (G' := [(3, .int .i64 n2), (8, .slice (some ad5) sc.length c1), (9, .int .i64 ((sc.length : Nat) : Int)), (10, .int .i64 ((j : Nat) : Int)), (42, .bool (decide (20000 < ((row.length : Nat) : Int))))]) ⟨rfl, rfl, rfl, rfl, rfl, trivial⟩ ?_
        refine w_cond rfl rfl (fun cB => ?_) (fun cB => ?_)
        · have l44 : (20000 < ((row.length : Nat) : Int)) := of_decide_eq_true cB
          refine w_seq ?_
          refine w_region ?_
          refine rw_val (v := .bool true) (w' := w_L31) rfl rfl rfl rfl rfl ?_
          refine rw_end ?_
          refine w_ret (post_ret1 rfl rfl ?_)
          exact ⟨_, rfl, (fun h => by cases h), (chain (hk28.below (by omega) (chain hB_L1 hb23)) hB_L31)⟩
        · have l45 : ¬ (20000 < ((row.length : Nat) : Int)) := of_decide_eq_false cB
          refine w_skip ?_
          refine w_blk ?_
          refine w_region ?_
          refine rw_val (v := .int .i64 ((j + 1 : Nat) : Int)) (w' := w_L31) rfl rfl rfl rfl (by simp [go_sem, sEv, sLook, nbeq, i64_w, -List.getD_eq_getElem?_getD]; exact wrap_id (by omega) (by omega)) ?_
          refine rw_val (v := .int .i64 ((j + 1 : Nat) : Int)) (w' := w_L31) rfl rfl rfl rfl rfl ?_
          refine rw_end ?_
          exact w_back (m_ - 1) [(3, .int .i64 n2), (8, .slice (some ad5) sc.length c1), (9, .int .i64 ((sc.length : Nat) : Int)), (10, .int .i64 ((j + 1 : Nat) : Int))] (by omega) ⟨rfl, rfl, rfl, rfl, trivial⟩ ⟨(j + 1), n2, by omega, (chain (hk28.below (by omega) (chain hB_L1 hb23)) hB_L31), (by intro o ho; rw [take_snocO sc j (by omega)] at ho; rcases List.mem_append.1 ho with ho | ho; exact hf3 o ho; rw [List.mem_singleton.1 ho, hel16]; show row.length ≤ 20000; omega), rfl⟩
      · have l46 : (400 < n2) := of_decide_eq_true cN
        refine rw_off (c := decide (400 < n2)) rfl rfl rfl (by first | (rw [cN]; rfl) | simp [cN]) rfl rfl ?_
        refine rw_off (c := decide (400 < n2)) rfl rfl rfl (by first | (rw [cN]; rfl) | simp [cN]) rfl rfl ?_
        refine rw_off (c := decide (400 < n2)) rfl rfl rfl (by first | (rw [cN]; rfl) | simp [cN]) rfl rfl ?_
        refine rw_off (c := decide (400 < n2)) rfl rfl rfl (by first | (rw [cN]; rfl) | simp [cN]) rfl rfl ?_
        refine rw_val (v := .bool true) (w' := w_L31) rfl rfl rfl rfl (by first | (simp [go_sem, sEv, sLook, nbeq, i64_w, -List.getD_eq_getElem?_getD, cN]; done) | (rw [cN]; simp [go_sem, sEv, sLook, nbeq, i64_w, -List.getD_eq_getElem?_getD]; done) | (simp [go_sem, sEv, sLook, nbeq, i64_w, -List.getD_eq_getElem?_getD] <;> omega) | (simp [go_sem, sEv, sLook, nbeq, i64_w, -List.getD_eq_getElem?_getD]; intro h_; exact absurd (by omega) h_)) ?_
        refine rw_end ?_
        refine w_weaken (G' := [(3, .int .i64 n2), (8, .slice (some ad5) sc.length c1), (9, .int .i64 ((sc.length : Nat) : Int)), (10, .int .i64 ((j : Nat) : Int)), (42, .bool true)]) ⟨rfl, rfl, rfl, rfl, rfl, trivial⟩ ?_
        refine w_cond_t rfl rfl rfl ?_
        refine w_seq ?_
        refine w_region ?_
        refine rw_val (v := .bool true) (w' := w_L31) rfl rfl rfl rfl rfl ?_
        refine rw_end ?_
        refine w_ret (post_ret1 rfl rfl ?_)
        exact ⟨_, rfl, (fun h => by cases h), (chain (hk28.below (by omega) (chain hB_L1 hb23)) hB_L31)⟩
  · have l47 : ¬ (((j : Nat) : Int) < ((sc.length : Nat) : Int)) := of_decide_eq_false cJ
    refine w_exit rfl ?_
    refine w_seq ?_
    refine w_region ?_
    refine rw_val (v := .bool false) (w' := w_L1) rfl rfl rfl rfl rfl ?_
    refine rw_end ?_
    refine w_ret (post_ret1 rfl rfl ?_)
    exact ⟨_, rfl, (fun h => by have ej_ : j = sc.length := (by omega); exact fun o ho => hf3 o (by rw [ej_, List.take_length]; exact ho)), hB_L1⟩
end Go.Proofs.Ytiiljpaedelhlaa.Tp
end
section
namespace Go.Proofs.Ytiiljpaedelhlaa.Tp
open Go.RowKit Go.Proofs.YtiiljpaedelhlaaW.PrintWords Go.Proofs.YtiiljpaedelhlaaW.PrintLast Go.Proofs.YtiiljpaedelhlaaW.PrintMore
open Go.Proofs.Ytiiljpaedelhlaa.Flow
set_option linter.unusedVariables false
set_option linter.unusedSimpArgs false
def okY (g tb gd u md : Nat) : Nat → Prop := fun q => q ≠ g ∧ q ≠ tb ∧ q ≠ gd ∧ q ≠ u ∧ q ≠ md
def MX (w W0 : World) (g tb gd : Nat) (D D' : DS) : Mt := ⟨fun q => q = g ∨ q = tb ∨ q = gd, fun W_ => TapeB w W_ g tb D.s ∧ Blk W_ gd 80 (dcells g D.r D.b), fun W_ => ∃ tb', TapeB w W_ g tb' D'.s ∧ Blk W_ gd 80 (dcells g D'.r D'.b) ∧ (tb' = tb ∨ tb' = g ∨ W0.heap.size ≤ tb')⟩
def MY (w : World) (g tb gd u md : Nat) (r r' : RS) (rs rs' : List (List Int)) : Mt := ⟨fun q => q = u ∨ q = md, fun W_ => Below w.heap.size w W_ ∧ RDAt w W_ (okY g tb gd u md) u md r rs, fun W_ => RDAt w W_ (okY g tb gd u md) u md r' rs'⟩
structure Nums5 (w W0 : World) (g tb gd u md : Nat) : Prop where
  b : w.heap.size ≤ g ∧ w.heap.size ≤ tb ∧ w.heap.size ≤ gd ∧ w.heap.size ≤ u ∧ w.heap.size ≤ md
  l : g < W0.heap.size ∧ tb < W0.heap.size ∧ gd < W0.heap.size ∧ u < W0.heap.size ∧ md < W0.heap.size
  n : gd ≠ g ∧ gd ≠ tb ∧ u ≠ g ∧ u ≠ tb ∧ u ≠ gd ∧ md ≠ g ∧ md ≠ tb ∧ md ≠ gd ∧ md ≠ u
section
variable {w W0 : World} {g tb gd u md p q : Nat} {s : TS} {D D' : DS} {r r' : RS} {rs rs' : List (List Int)} {cs : Array Value} {ok : Nat → Prop}
theorem nums5 (hT : TapeB w W0 g tb s) (hb : Blk W0 gd 80 cs) (hgd0 : w.heap.size ≤ gd) (hR : RDAt w W0 ok u md r rs) : Nums5 w W0 g tb gd u md := by
  have hz := hT.size
  obtain ⟨h1, h2, h3, A, c, h4, h5⟩ := hR
  have a := hT.ne hb (by decide) (by decide)
  have b := hT.ne h1 (by decide) (by decide)
  have d := hT.ne h4 (by decide) (by decide)
  exact ⟨⟨hz.1, hz.2.2.1, hgd0, h2, h3⟩, ⟨hz.2.1, hz.2.2.2, hb.lt, h1.lt, h4.lt⟩, ⟨a.1, a.2, b.1, b.2, blk_ne h1 hb (by decide), d.1, d.2, blk_ne h4 hb (by decide), blk_ne h4 h1 (by decide)⟩⟩
theorem rd_okY (hT : TapeB w W0 g tb s) (hb : Blk W0 gd 80 cs) (hR : RDAt w W0 ok u md r rs) : RDAt w W0 (okY g tb gd u md) u md r rs := by
  have h0 := hR
  obtain ⟨h1, h2, h3, A, c, h4, h5⟩ := h0
  refine hR.typed.mono (fun q h => ?_)
  obtain ⟨_, cq, hq⟩ := h
  have p := hT.ne hq (by decide) (by decide)
  exact ⟨p.1, p.2, blk_ne hq hb (by decide), blk_ne hq h1 (by decide), blk_ne hq h4 (by decide)⟩
theorem mu_XY {z : Nat} (h : MU (two p q (MX w W0 g tb gd D D') (MY w g tb gd u md r r' rs rs')) z) : z = g ∨ z = tb ∨ z = gd ∨ z = u ∨ z = md := by
  rcases mu_two h with (h | h | h) | (h | h)
  · exact .inl h
  · exact .inr (.inl h)
  · exact .inr (.inr (.inl h))
  · exact .inr (.inr (.inr (.inl h)))
  · exact .inr (.inr (.inr (.inr h)))
theorem MX_on : ∀ W W', Below W.heap.size W W' → ((MX w W0 g tb gd D D').F0 W → (MX w W0 g tb gd D D').F0 W') ∧ ((MX w W0 g tb gd D D').F1 W → (MX w W0 g tb gd D D').F1 W') := fun W W' hb =>
  ⟨fun h => ⟨h.1.on hb, h.2.on hb⟩, fun ⟨t, h1, h2, h3⟩ => ⟨t, h1.on hb, h2.on hb, h3⟩⟩
theorem MY_on : ∀ W W', Below W.heap.size W W' → ((MY w g tb gd u md r r' rs rs').F0 W → (MY w g tb gd u md r r' rs rs').F0 W') ∧ ((MY w g tb gd u md r r' rs rs').F1 W → (MY w g tb gd u md r r' rs rs').F1 W') := fun W W' hb =>
  ⟨fun h => ⟨chain h.1 hb, h.2.on hb⟩, fun h => RDAt.on h hb⟩
theorem XY_on : ∀ j x, two p q (MX w W0 g tb gd D D') (MY w g tb gd u md r r' rs rs') j = some x → ∀ W W', Below W.heap.size W W' → (x.F0 W → x.F0 W') ∧ (x.F1 W → x.F1 W') :=
  two_cases (P := fun _ x => ∀ W W', Below W.heap.size W W' → (x.F0 W → x.F0 W') ∧ (x.F1 W → x.F1 W')) MX_on MY_on
theorem XY_ff (N : Nums5 w W0 g tb gd u md) : ∀ i b, two p q (MX w W0 g tb gd D D') (MY w g tb gd u md r r' rs rs') i = some b → ∀ j a, two p q (MX w W0 g tb gd D D') (MY w g tb gd u md r r' rs rs') j = some a → j ≠ i → ∀ W W', Kept W W' b.S → QT W W' → (a.F0 W → a.F0 W') ∧ (a.F1 W → a.F1 W') := by
  obtain ⟨b, l, n⟩ := N
  refine two_ff (fun W W' hk hq => ?_) (fun W W' hk hq => ?_)
  · have hk' : Kept W W' (fun q => q = g ∨ q = tb ∨ q = gd) := hk
    have key : ∀ {r rs}, RDAt w W (okY g tb gd u md) u md r rs → RDAt w W' (okY g tb gd u md) u md r rs := fun h => h.kept hk' (by omega) (by omega) (fun q h hs => by
      rcases hs with e | e | e
      · exact h.1 e
      · exact h.2.1 e
      · exact h.2.2.1 e)
    exact ⟨fun h => ⟨below_k h.1 hk' hq (fun q hs => by omega), key h.2⟩, key⟩
  · have hk' : Kept W W' (fun q => q = u ∨ q = md) := hk
    refine ⟨fun h => ⟨h.1.kept hk' hq (fun q hs => by omega) (by omega) (by omega), Blk.keptT h.2 hk' (by omega)⟩, fun ⟨t, h1, h2, h3⟩ => ⟨t, h1.kept hk' hq (fun q hs => by omega) (by omega) ?_, Blk.keptT h2 hk' (by omega), h3⟩⟩
    rcases h3 with rfl | rfl | h3 <;> omega
theorem XY_0 (h1 : TapeB w W0 g tb D.s) (h2 : Blk W0 gd 80 (dcells g D.r D.b)) (h3 : RDAt w W0 (okY g tb gd u md) u md r rs) : ∀ j x, two p q (MX w W0 g tb gd D D') (MY w g tb gd u md r r' rs rs') j = some x → x.F0 W0.drew :=
  two_cases (P := fun _ x => x.F0 W0.drew) ⟨h1.on (below_drew _), h2.on (below_drew _)⟩ ⟨chain h1.below (below_drew _), h3.on (below_drew _)⟩
end
theorem readB (w0 w : World) (g tb : Nat) (s : TS) (hT : TapeB w0 w g tb s) (hok : s.Ok) : Calls Try.prog 17 #[.pointer (some ⟨g, 0, none⟩)] w fun e w' => ∃ A c, e = .returned (.slice A s.xs.length c) ∧ OwnK (Kd.int .u8) 5 w' w.heap.size w.heap.size A s.xs.length c s.xs ∧ Below w.heap.size w w' := by
  obtain ⟨m, hm⟩ := hT.atX
  exact readO w0 w g m (XB w g tb) (fun q h => h.1) s hm hok
theorem stepsB (w0 w : World) (g tb : Nat) (s : TS) (hT : TapeB w0 w g tb s) (hok : s.Ok) : Calls Try.prog 24 #[.pointer (some ⟨g, 0, none⟩)] w fun e w' => e = .returned (.int .i64 s.steps) ∧ Below w.heap.size w w' := by
  obtain ⟨m, hm⟩ := hT.atX
  exact (steps_T w0 w g m (XB w g tb) (fun q h => h.1) s hm hok).mono fun e w' h => ⟨h.1, h.2 ▸ Below.refl _ _⟩
theorem texts_L (w : World) (A1 : Option Addr) (c1 : Nat) (rows : List (List Int)) (hr : (Kd.slice 5 (Kd.int .u8)).C w A1 rows.length rows) (hc1 : rows.length ≤ c1) (hn : rows.length ≤ 6000000000000) :
    Calls Try.prog 14 #[.slice A1 rows.length c1] w fun e w' => ∃ A c, e = .returned (.slice A rows.length c) ∧ OwnK kSL 9 w' w.heap.size w.heap.size A rows.length c rows ∧ Below w.heap.size w w' := by
  refine (texts_calls w A1 c1 rows hr hc1 hn).mono fun e w' h => ?_
  obtain ⟨A, c, h1, h2, h3⟩ := h
  rw [List.length_map] at h1 h2
  exact ⟨A, c, h1, sl_R h2, h3⟩
theorem same_L (w : World) (A1 A2 : Option Addr) (c1 c2 : Nat) (rows : List (List Int)) (hr : (Kd.slice 5 (Kd.int .u8)).C w A1 rows.length rows) (hc1 : rows.length ≤ c1) (hl : kSL.C w A2 rows.length rows) (hc2 : rows.length ≤ c2) (hn : rows.length ≤ 2000000) :
    Calls Try.prog 13 #[.slice A1 rows.length c1, .slice A2 rows.length c2] w fun e w' => e = .returned (.bool true) ∧ Below w.heap.size w w' := by
  have h := same_calls w A1 A2 c1 c2 rows (rows.map strOfNums) hr hc1 (by rw [List.length_map]; exact sl_S hl) (by rw [List.length_map]; exact hc2) (by rw [List.length_map]; exact hn)
  rw [List.length_map, decide_eq_true rfl] at h
  exact h
end Go.Proofs.Ytiiljpaedelhlaa.Tp
end
section
namespace Go.Proofs.Ytiiljpaedelhlaa.Flow
open Go.RowKit Go.Proofs.YtiiljpaedelhlaaW.PrintWords Go.Proofs.YtiiljpaedelhlaaW.PrintLast Go.Proofs.YtiiljpaedelhlaaW.PrintMore
open Go.ChangeShapes Go.WideShapes Go.ChangeAt Go.Deep
set_option linter.unusedVariables false
set_option linter.unusedSimpArgs false
section
variable {H : Type} {enc : TypeId × Value → H} {P : Program} {W : World}
def Light (P : Program) (t : TypeId) (d : DataW H) : Prop := ∀ n ∈ d.weights P t, n ≤ reachBytes
theorem light_arg {ts : List TypeId} {ds : List (DataW H)} {j : Nat} {t : TypeId} {d : DataW H} (hsz : (DataW.weightsEach P ts ds).all (· ≤ reachBytes) = true) (ht : ts[j]? = some t) (hd : ds[j]? = some d) : Light P t d := fun n hn => by
  have h := List.all_eq_true.1 hsz n (DataW.weights_mem_each ht hd n hn)
  simpa using h
theorem weights_all_mem {e : TypeId} : ∀ {l : List (DataW H)} {d : DataW H}, d ∈ l → ∀ n ∈ d.weights P e, n ∈ DataW.weightsAll P e l
  | [], _, h, _, _ => by cases h
  | d0 :: l, d, h, n, hn => by
    simp only [DataW.weightsAll, List.mem_append]
    rcases List.mem_cons.1 h with rfl | h
    · exact .inl hn
    · exact .inr (weights_all_mem h n hn)
def OpW (enc : TypeId × Value → H) (P : Program) (W : World) {α : Type} (t : TypeId) (d : Kd α) (ok : α → Prop) : Prop :=
  ∀ (m : Nat) (cs : List Value) (y : DataW H × List MemPlace), DataW.trod enc P W 0 (fun _ => true) true m t cs = some y → Light P t y.1 → ∃ x, d.K W x cs ∧ ok x
theorem Opn.w {α : Type} {t : TypeId} {d : Kd α} {ok : α → Prop} (h : Opn enc P W t d ok) : OpW enc P W t d ok := fun m cs y hy _ => h m cs y hy
theorem opw_slice {α : Type} {t e : TypeId} {d : Kd α} {ok : α → Prop} (ht : P.underlying t = some (.slice e)) (hsz : P.cellsOf e = d.sz) (hB : 1 ≤ P.bytesOf e) (z : α) (he : OpW enc P W e d ok) : OpW enc P W t (Kd.slice e d) (fun xs => xs.length ≤ 140737488351232 ∧ ∀ x ∈ xs, ok x) := fun m cs y h hL => by
  rcases open_slice ht h with ⟨rfl, _⟩ | ⟨a, len, cap, m2, n, D, Pl, rfl, _, hl, hm, hmm, hy, hx⟩
  · exact ⟨[], ⟨none, 0, rfl, Nat.le_refl _, ⟨rfl, by simp, fun h => absurd h (by simp)⟩⟩, by simp, fun x hx => by cases hx⟩
  · simp only [if_true] at hmm
    subst hy
    have hw : len * 1 ≤ 140737488351232 := by
      have h1 := hL ((((List.range len).map D).length + ((List.range (m2 - len)).map fun j => D (len + j)).length) * P.bytesOf e) (by simp [DataW.weights, ht])
      simp only [List.length_map, List.length_range] at h1
      exact Nat.le_trans (Nat.mul_le_mul (by omega) hB) h1
    have each : ∀ i, i < len → ∃ x : α, ok x ∧ ∃ c, c.length = d.sz ∧ d.K W x c ∧ ∀ j u, c[j]? = some u → W.cell? (a.add (i * d.sz + j)) = some u := fun i hi => by
      obtain ⟨cs', h1, h2⟩ := hx i (by omega)
      obtain ⟨x, h3, h4⟩ := he _ _ _ h2 (fun n hn => hL n (by
        simp only [DataW.weights, ht, List.mem_cons, List.mem_append]
        exact .inr (.inl (weights_all_mem (List.mem_map.2 ⟨i, List.mem_range.2 hi, rfl⟩) n hn))))
      rw [hsz] at h1
      refine ⟨x, h4, cs', d.K_len h3, h3, fun j u hu => ?_⟩
      obtain ⟨_, hlen, hc⟩ := World.cells?_some h1
      rw [← Go.Deep.add_add]
      exact (hc j (by rw [← hlen]; exact (List.getElem?_eq_some_iff.1 hu).1)).trans hu
    have each2 : ∀ i, ∃ x : α, i < len → ok x ∧ ∃ c, c.length = d.sz ∧ d.K W x c ∧ ∀ j u, c[j]? = some u → W.cell? (a.add (i * d.sz + j)) = some u := fun i => by
      by_cases hi : i < len
      · obtain ⟨x, hx⟩ := each i hi
        exact ⟨x, fun _ => hx⟩
      · exact ⟨z, fun h => absurd h hi⟩
    obtain ⟨f, hf⟩ := Classical.skolem.1 each2
    have hlen : ((List.range len).map f).length = len := by simp
    refine ⟨(List.range len).map f, ⟨some a, cap, by rw [hlen], by omega, ⟨rfl, ?_, fun hn => ⟨a, rfl, fun j p hj => ?_⟩⟩⟩, by rw [hlen]; omega, fun x hx => ?_⟩
    · rw [hlen]
      omega
    · obtain ⟨hl2, hp⟩ := List.getElem?_eq_some_iff.1 hj
      rw [hlen] at hl2
      rw [List.getElem_map, List.getElem_range] at hp
      subst hp
      exact (hf j hl2).2
    · obtain ⟨i, hi, rfl⟩ := List.mem_map.1 hx
      exact (hf i (List.mem_range.1 hi)).1
theorem opwAt_last {α : Type} {t : TypeId} {d : Kd α} {ok : α → Prop} {cs : List Value} {a n : Nat} {y : DataW H × List MemPlace} (h : OpW enc P W t d ok) (hc : P.cellsOf t = d.sz) (hl : cs.length = a + d.sz) (hf : DataW.trod enc P W 0 (fun _ => true) true n t ((cs.drop a).take (P.cellsOf t)) = some y) (hL : Light P t y.1) : OpnAt enc P W cs a d ok := by
  obtain ⟨x, h1, h2⟩ := h _ _ _ hf hL
  rw [hc, take_all cs a d.sz hl] at h1
  exact ⟨x, h1, h2⟩
theorem opwAt_cons {α β : Type} {t : TypeId} {d : Kd α} {d2 : Kd β} {ok : α → Prop} {ok2 : β → Prop} {cs : List Value} {a b n : Nat} {y : DataW H × List MemPlace} (h : OpW enc P W t d ok) (hc : P.cellsOf t = d.sz) (hb : b = a + d.sz) (hf : DataW.trod enc P W 0 (fun _ => true) true n t ((cs.drop a).take (P.cellsOf t)) = some y) (hL : Light P t y.1) (hr : OpnAt enc P W cs b d2 ok2) : OpnAt enc P W cs a (Kd.pair d d2) (fun x => ok x.1 ∧ ok2 x.2) := by
  obtain ⟨x, h1, h2⟩ := h _ _ _ hf hL
  obtain ⟨x2, h3, h4⟩ := hr
  subst hb
  rw [hc] at h1
  exact ⟨(x, x2), ⟨_, _, split_at cs a d.sz, h1, h3⟩, h2, h4⟩
theorem opw_struct {α : Type} {t : TypeId} {fs : Array Field} {d : Kd α} {ok : α → Prop} (ht : P.underlying t = some (.struct fs)) (hf : ∀ (n : Nat) (cs : List Value) (ys : List (DataW H × List MemPlace)), cs.length = P.cellsOf t → (∀ (j : Nat) (f : Field), fs[j]? = some f → DataW.trod enc P W 0 (fun _ => true) true n f.type ((cs.drop f.offset).take (P.cellsOf f.type)) = ys[j]?) → ys.length = fs.size → (∀ (j : Nat) (f : Field) (y : DataW H × List MemPlace), fs[j]? = some f → ys[j]? = some y → Light P f.type y.1) → OpnAt enc P W cs 0 d ok) : OpW enc P W t d ok := fun m cs y h hL => by
  obtain ⟨ys, n, _, hy, hcl, hyl, hg⟩ := DataW.trod_struct ht h
  subst hy
  refine hf n cs ys hcl hg hyl (fun j f y hj hyj k hk => hL k ?_)
  simp only [DataW.weights, ht]
  exact DataW.weights_mem_each (j := j) (t := f.type) (d := y.1) (by rw [List.getElem?_map, Array.getElem?_toList, hj]; rfl) (by rw [List.getElem?_map, hyj]; rfl) k hk
end
theorem argw_row {H : Type} {enc : TypeId × Value → H} {P : Program} {W : World} {α : Type} {t e : TypeId} {d : Kd α} {ok : List α → Prop} {v : Value} {dd : DataW H} {p : List MemPlace} (ho : OpW enc P W t (Kd.slice e d) ok) (hL : Light P t dd) (hv : ∃ a len cap, v = .slice a len cap) (h : DataW.Trod enc P W 0 (fun _ => true) true t v dd p) :
    ∃ (A : Option Addr) (c : Nat) (xs : List α), v = .slice A xs.length c ∧ d.C W A xs.length xs ∧ xs.length ≤ c ∧ ok xs := by
  obtain ⟨a, len, cap, rfl⟩ := hv
  obtain ⟨m, hm⟩ := h
  obtain ⟨xs, ⟨A, c, h1, h2, h3⟩, h4⟩ := ho _ _ _ hm hL
  exact ⟨A, c, xs, by simpa [Value.cells] using h1, h3, h2, h4⟩
end Go.Proofs.Ytiiljpaedelhlaa.Flow
end
section
namespace Go.Proofs.Ytiiljpaedelhlaa.Tp
open Go.RowKit Go.Proofs.YtiiljpaedelhlaaW.PrintWords Go.Proofs.YtiiljpaedelhlaaW.PrintLast Go.Proofs.YtiiljpaedelhlaaW.PrintMore
open Go.Proofs.Ytiiljpaedelhlaa.Flow
open Go.Proofs.Ytiiljpaedelhlaa.PDiaryPlays (SplitR Bytes frameB frameE FC wholeP errW wrap_calls frameB_len frameB_bytes FC_cons)
set_option linter.unusedVariables false
set_option linter.unusedSimpArgs false
set_option maxHeartbeats 4000000 in
theorem num_none (w : World) :
    Calls Try.prog 23 #[errT none] w fun e w' => e = .returned (.int .i64 0) ∧ Below w.heap.size w w' := by
  refine calls_flow Try.func23 rfl 19 rfl (Nat.le_of_ble_eq_true rfl) [(0, errT none)] ?_ ?_
  · intro t v h; exact args_look rfl t v h
  refine w_seq ?_
  refine w_region ?_
  refine rw_val (v := .int .i64 0) (w' := w) rfl rfl rfl rfl rfl ?_
  refine rw_end ?_
  refine w_seq ?_
  refine w_seq ?_
  refine w_region ?_
  refine rw_val (v := errT none) (w' := w) rfl rfl rfl rfl rfl ?_
  refine rw_val (v := .bool ((none : Option Int).isNone)) (w' := w) rfl rfl rfl rfl (run_as (guard_err_eq0 _ (none : Option Int) _)) ?_
  refine rw_end ?_
  have hq1 : ((none : Option Int).isNone) = true := by rfl
  refine w_cond_t rfl rfl hq1 ?_
  refine w_seq ?_
  refine w_region ?_
  refine rw_val (v := .int .i64 0) (w' := w) rfl rfl rfl rfl rfl ?_
  refine rw_end ?_
  refine w_ret (post_ret1 rfl rfl ?_)
  exact ⟨rfl, (Below.refl _ _)⟩
set_option maxHeartbeats 4000000 in
theorem num_some (c : Int) (hc : (c == 0) = false) (w : World) :
    Calls Try.prog 23 #[errT (some c)] w fun e w' => e = .returned (.int .i64 c) ∧ Below w.heap.size w w' := by
  refine calls_flow Try.func23 rfl 19 rfl (Nat.le_of_ble_eq_true rfl) [(0, errT (some c))] ?_ ?_
  · intro t v h; exact args_look rfl t v h
  refine w_seq ?_
  refine w_region ?_
  refine rw_val (v := .int .i64 0) (w' := w) rfl rfl rfl rfl rfl ?_
  refine rw_end ?_
  refine w_seq ?_
  refine w_seq ?_
  refine w_region ?_
  refine rw_val (v := errT (some c)) (w' := w) rfl rfl rfl rfl rfl ?_
  refine rw_val (v := .bool ((some c).isNone)) (w' := w) rfl rfl rfl rfl (run_as (guard_err_eq0 _ (some c) _)) ?_
  refine rw_end ?_
  have hq1 : ((some c).isNone) = false := by rfl
  refine w_cond_f rfl rfl hq1 ?_
  refine w_skip ?_
  refine w_seq ?_
  refine w_region ?_
  refine rw_val (v := errT (some c)) (w' := w) rfl rfl rfl rfl rfl ?_
  refine rw_val (v := .tuple #[.int .i64 c, .bool true]) (w' := w) rfl rfl rfl rfl (by kernel_rfl) ?_
  refine rw_val (v := .tuple #[.int .i64 c, .bool true]) (w' := w) rfl rfl rfl rfl rfl ?_
  refine rw_val (v := .int .i64 c) (w' := w) rfl rfl rfl rfl (by simp [go_sem, sEv, sLook, nbeq, i64_w, -List.getD_eq_getElem?_getD]) ?_
  refine rw_val (v := .bool true) (w' := w) rfl rfl rfl rfl (by simp [go_sem, sEv, sLook, nbeq, i64_w, -List.getD_eq_getElem?_getD]) ?_
  refine rw_val (v := .int .i64 c) (w' := w) rfl rfl rfl rfl rfl ?_
  refine rw_val (v := .bool true) (w' := w) rfl rfl rfl rfl rfl ?_
  refine rw_end ?_
  refine w_weaken (G' := [(2, .int .i64 0), (3, .int .i64 c), (4, .bool true)]) ⟨rfl, rfl, rfl, trivial⟩ ?_
  refine w_seq ?_
  refine w_seq ?_
  refine w_region ?_
  refine rw_val (v := .bool true) (w' := w) rfl rfl rfl rfl rfl ?_
  refine rw_val (v := .bool false) (w' := w) rfl rfl rfl rfl (by simp [go_sem, sEv, sLook, nbeq, i64_w, -List.getD_eq_getElem?_getD]) ?_
  refine rw_val (v := .bool false) (w' := w) rfl rfl rfl rfl rfl ?_
  refine rw_on (c := false) rfl rfl rfl rfl ?_
  refine rw_val (v := .int .i64 c) (w' := w) rfl rfl rfl rfl rfl ?_
  refine rw_on (c := false) rfl rfl rfl rfl ?_
  refine rw_val (v := .bool (c == 0)) (w' := w) rfl rfl rfl rfl (by simp [go_sem, sEv, sLook, nbeq, i64_w, -List.getD_eq_getElem?_getD]) ?_
  refine rw_val (v := .bool (c == 0)) (w' := w) rfl rfl rfl rfl (by simp [go_sem, sEv, sLook, nbeq, i64_w, -List.getD_eq_getElem?_getD]) ?_
  refine rw_end ?_
  refine w_weaken (G' := [(2, .int .i64 0), (3, .int .i64 c), (17, .bool (c == 0))]) ⟨rfl, rfl, rfl, trivial⟩ ?_
  refine w_cond_f rfl rfl hc ?_
  refine w_skip ?_
  refine w_seq ?_
  refine w_region ?_
  refine rw_val (v := .int .i64 c) (w' := w) rfl rfl rfl rfl rfl ?_
  refine rw_val (v := .int .i64 c) (w' := w) rfl rfl rfl rfl rfl ?_
  refine rw_end ?_
  refine w_ret (post_ret1 rfl rfl ?_)
  exact ⟨rfl, (Below.refl _ _)⟩
theorem num_T (o : Option Int) (ho : o ≠ some 0) (w : World) : Calls Try.prog 23 #[errT o] w fun e w' => e = .returned (.int .i64 (numT o)) ∧ Below w.heap.size w w' := by
  cases o with
  | none => exact num_none w
  | some c => exact num_some c (by rw [beq_eq_false_iff_ne]; intro h; exact ho (by rw [h])) w
end Go.Proofs.Ytiiljpaedelhlaa.Tp
end
section
namespace Go.Proofs.Ytiiljpaedelhlaa.Flow
open Go.RowKit Go.Proofs.YtiiljpaedelhlaaW.PrintWords Go.Proofs.YtiiljpaedelhlaaW.PrintLast Go.Proofs.YtiiljpaedelhlaaW.PrintMore
open Go.ChangeShapes Go.WideShapes Go.ChangeAt Go.Deep
set_option linter.unusedVariables false
set_option linter.unusedSectionVars false
section
variable {H : Type} {enc : TypeId × Value → H} {P : Program} {W : World}
theorem opw_sliceb {α : Type} {t e : TypeId} {d : Kd α} {ok : α → Prop} (b : Nat) (ht : P.underlying t = some (.slice e)) (hsz : P.cellsOf e = d.sz) (hB : b ≤ P.bytesOf e) (hb1 : 1 ≤ b) (z : α) (he : OpW enc P W e d ok) : OpW enc P W t (Kd.slice e d) (fun xs => xs.length * b ≤ 140737488351232 ∧ ∀ x ∈ xs, ok x) := fun m cs y h hL => by
  obtain ⟨xs, h1, h2, h3⟩ := opw_slice ht hsz (Nat.le_trans hb1 hB) z he m cs y h hL
  rcases open_slice ht h with ⟨rfl, _⟩ | ⟨a, len, cap, m2, n, D, Pl, rfl, _, hl, hm, hmm, hy, hx⟩
  · exact ⟨[], ⟨none, 0, rfl, Nat.le_refl _, ⟨rfl, by simp, fun h => absurd h (by simp)⟩⟩, by simp, fun x hx => by cases hx⟩
  · refine ⟨xs, h1, ?_, h3⟩
    obtain ⟨A, c, e1, _, hC⟩ := h1
    simp only [List.cons.injEq, and_true] at e1
    injection e1 with _ e2 _
    simp only [if_true] at hmm
    subst hy
    have h1 := hL ((((List.range len).map D).length + ((List.range (m2 - len)).map fun j => D (len + j)).length) * P.bytesOf e) (by simp [DataW.weights, ht])
    simp only [List.length_map, List.length_range] at h1
    exact Nat.le_trans (Nat.mul_le_mul (by omega) hB) h1
end
end Go.Proofs.Ytiiljpaedelhlaa.Flow
end
