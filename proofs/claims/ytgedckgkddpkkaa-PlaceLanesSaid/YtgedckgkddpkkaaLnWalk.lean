/- Lanes are unlike: the walk. -/
import Derived.Test.YtgedckgkddpkkaaLnMap
namespace Go.Proofs.Ytgedckgkddpkkaa.PPlaceLanes
open Go.RowKit Go.Proofs.YtgedckgkddpkkaaW.PrintWords Go.Proofs.YtgedckgkddpkkaaW.PrintLast Go.Proofs.YtgedckgkddpkkaaW.PrintMore
open Go.Proofs.Ytgedckgkddpkkaa.Flow
set_option linter.unusedVariables false
set_option linter.unusedSimpArgs false


theorem run_skip {P : Program} {s : Sem Unit} {w w' : World} (h : s.run P w = .ok () w') : (do s; pure Next.skip : Sem Next).run P w = .ok .skip w' := by simp [h]
theorem lane_f (i s sh : Nat) (h1 : i * sh ≤ 100) (h2 : s ≤ 100) (h3 : sh ≤ 4) : place_Lane.f (i : Int) (s : Int) (sh : Int) = some ((i * sh + s : Nat) : Int) := by
  unfold place_Lane.f
  rw [← Int.natCast_mul, wrap_id (x := ((i * sh : Nat) : Int)) (by omega) (by omega), wrap_id (by omega) (by omega)]
  rfl
set_option maxHeartbeats 4000000 in
theorem lanes_nat (kr ks : Int) (r0 s0 re sh : Nat) (hr : Int.tmod (IntKind.u64.wrap kr) 3 = (r0 : Int)) (hr3 : r0 < 3) (hre : re = r0 + 1) (hs : Int.tmod (IntKind.u64.wrap ks) 4 = (s0 : Int)) (hs4 : s0 < 4) (hsh : sh = s0 + 1) (hrs : re * sh ≤ 12) (w : World) :
    Calls Try.prog 4 #[.int .i64 kr, .int .i64 ks] w fun e w' => e = .returned (.bool true) ∧ Below w.heap.size w w' := by
  refine calls_flow Try.func4 rfl 86 rfl (Nat.le_of_ble_eq_true rfl) [(0, .int .i64 kr), (1, .int .i64 ks)] ?_ ?_
  · intro t v h; exact args_look rfl t v h
  refine w_seq ?_
  refine w_region ?_
  refine rw_val (v := .bool false) (w' := w) rfl rfl rfl rfl rfl ?_
  refine rw_end ?_
  refine w_seq ?_
  refine w_seq ?_
  refine w_region ?_
  refine rw_call rfl rfl rfl rfl (f := 10) (args := #[]) (by simp [go_sem, sEv, sLook, nbeq, i64_w]) (estuarylaw03_alive.calls 3 true w alive_true) ?_
  rintro e_ w1 ⟨rfl, hb2⟩
  refine ⟨_, rfl, ?_⟩
  have hs_w1 := hb2.size
  refine rw_val (v := .bool false) (w' := w1) rfl rfl rfl rfl (by simp [go_sem, sEv, sLook, nbeq, i64_w]) ?_
  refine rw_end ?_
  refine w_cond_f rfl rfl rfl ?_
  refine w_skip ?_
  refine w_seq ?_
  refine w_region ?_
  refine rw_val (v := .int .i64 kr) (w' := w1) rfl rfl rfl rfl rfl ?_
  refine rw_val (v := .int .u64 (IntKind.u64.wrap (kr))) (w' := w1) rfl rfl rfl rfl (by simp [go_sem, sEv, sLook, nbeq, i64_w, Try.underlying3, Try.underlying34]) ?_
  refine rw_val (v := .int .u64 (r0 : Int)) (w' := w1) rfl rfl rfl rfl (by simp [go_sem, sEv, sLook, nbeq, i64_w]; exact hr) ?_
  refine rw_val (v := .int .i64 (r0 : Int)) (w' := w1) rfl rfl rfl rfl (by simp [go_sem, sEv, sLook, nbeq, i64_w]; exact wrap_id (by omega) (by omega)) ?_
  refine rw_val (v := .int .i64 (re : Int)) (w' := w1) rfl rfl rfl rfl (by simp [go_sem, sEv, sLook, nbeq, i64_w]; rw [wrap_id (by omega) (by omega)]; omega) ?_
  refine rw_val (v := .int .i64 ks) (w' := w1) rfl rfl rfl rfl rfl ?_
  refine rw_val (v := .int .u64 (IntKind.u64.wrap (ks))) (w' := w1) rfl rfl rfl rfl (by simp [go_sem, sEv, sLook, nbeq, i64_w, Try.underlying3, Try.underlying34]) ?_
  refine rw_val (v := .int .u64 (s0 : Int)) (w' := w1) rfl rfl rfl rfl (by simp [go_sem, sEv, sLook, nbeq, i64_w]; exact hs) ?_
  refine rw_val (v := .int .i64 (s0 : Int)) (w' := w1) rfl rfl rfl rfl (by simp [go_sem, sEv, sLook, nbeq, i64_w]; exact wrap_id (by omega) (by omega)) ?_
  refine rw_val (v := .int .i64 (sh : Int)) (w' := w1) rfl rfl rfl rfl (by simp [go_sem, sEv, sLook, nbeq, i64_w]; rw [wrap_id (by omega) (by omega)]; omega) ?_
  refine rw_val (v := .int .i64 (re : Int)) (w' := w1) rfl rfl rfl rfl rfl ?_
  refine rw_val (v := .int .i64 (sh : Int)) (w' := w1) rfl rfl rfl rfl rfl ?_
  refine rw_end ?_
  refine w_weaken (G' := [(0, .int .i64 (re : Int)), (1, .int .i64 (sh : Int)), (4, .bool false)]) ⟨rfl, rfl, rfl, trivial⟩ ?_
  refine w_seq ?_
  refine w_region ?_
  obtain ⟨g3, hg8⟩ : ∃ g, g = w1.heap.size := ⟨_, rfl⟩
  obtain ⟨w4, hz7⟩ : ∃ w_, w_ = w1.alloc (.map #[] 0) := ⟨_, rfl⟩
  have hb5 : Below w1.heap.size w1 w4 := by rw [hz7]; exact below_alloc (Below.refl _ _) _
  have hk6 : MapAt w4 g3 0 := map_new _ _ (by rw [hz7, hg8]; exact (Go.MapKept.heap_alloc _ _).1)
  refine rw_val (v := .map (some g3)) (w' := w4) rfl rfl rfl rfl (by rw [hg8, hz7]; exact run_as rfl) ?_
  have hs_w4 := hb5.size
  refine rw_val (v := .map (some g3)) (w' := w4) rfl rfl rfl rfl rfl ?_
  refine rw_end ?_
  refine w_seq ?_
  refine w_seq ?_
  refine w_region ?_
  refine rw_val (v := .int .i64 (re : Int)) (w' := w4) rfl rfl rfl rfl rfl ?_
  refine rw_val (v := .int .i64 0) (w' := w4) rfl rfl rfl rfl rfl ?_
  refine rw_end ?_
  refine w_block ?_
  have hgw_ : w.heap.size ≤ g3 := by omega
  refine w_loop (fun m_ G W_ => ∃ i : Nat, i + m_ = re ∧ Below w.heap.size w W_ ∧ MapAt W_ g3 (i * sh) ∧ G = [(0, .int .i64 (re : Int)), (1, .int .i64 (sh : Int)), (5, .map (some g3)), (24, .int .i64 (re : Int)), (25, .int .i64 (i : Int))]) re [(0, .int .i64 (re : Int)), (1, .int .i64 (sh : Int)), (5, .map (some g3)), (24, .int .i64 (re : Int)), (25, .int .i64 0)] ⟨0, by omega, (chain hb2 hb5), by rw [Nat.zero_mul]; exact hk6, rfl⟩ ⟨rfl, rfl, rfl, rfl, rfl, trivial⟩ ?_
  rintro m_ G w_ ⟨i, him, hBw_, hM_, rfl⟩
  have hs_w_ := hBw_.size
  refine w_seq ?_
  refine w_region ?_
  refine rw_val (v := .bool (decide ((i : Int) < (re : Int)))) (w' := w_) rfl rfl rfl rfl (by simp [go_sem, sEv, sLook, nbeq, i64_w]) ?_
  refine rw_end ?_
  refine w_seq ?_
  refine w_cond rfl rfl (fun cI => ?_) (fun cI => ?_)
  · refine w_skip ?_
    refine w_seq ?_
    refine w_block ?_
    refine w_seq ?_
    refine w_region ?_
    refine rw_val (v := .int .i64 (i : Int)) (w' := w_) rfl rfl rfl rfl rfl ?_
    refine rw_val (v := .int .i64 (i : Int)) (w' := w_) rfl rfl rfl rfl rfl ?_
    refine rw_end ?_
    refine w_seq ?_
    refine w_region ?_
    refine rw_val (v := .int .i64 (sh : Int)) (w' := w_) rfl rfl rfl rfl rfl ?_
    refine rw_val (v := .int .i64 0) (w' := w_) rfl rfl rfl rfl rfl ?_
    refine rw_end ?_
    refine w_block ?_
    have li_ := of_decide_eq_true cI
    have hmul_ : i * sh + sh ≤ re * sh := by have h_ := Nat.mul_le_mul_right sh (show i + 1 ≤ re by omega); rwa [Nat.succ_mul] at h_
    refine w_loop (fun m_ G W_ => ∃ s : Nat, s + m_ = sh ∧ Below w.heap.size w W_ ∧ MapAt W_ g3 (i * sh + s) ∧ G = [(0, .int .i64 (re : Int)), (1, .int .i64 (sh : Int)), (5, .map (some g3)), (24, .int .i64 (re : Int)), (25, .int .i64 (i : Int)), (6, .int .i64 (i : Int)), (28, .int .i64 (sh : Int)), (29, .int .i64 (s : Int))]) sh [(0, .int .i64 (re : Int)), (1, .int .i64 (sh : Int)), (5, .map (some g3)), (24, .int .i64 (re : Int)), (25, .int .i64 (i : Int)), (6, .int .i64 (i : Int)), (28, .int .i64 (sh : Int)), (29, .int .i64 0)] ⟨0, by omega, hBw_, hM_, rfl⟩ ⟨rfl, rfl, rfl, rfl, rfl, rfl, rfl, rfl, trivial⟩ ?_
    rintro m2_ G w_2 ⟨s, hsm, hBw2_, hM2_, rfl⟩
    have hs_w_2 := hBw2_.size
    refine w_seq ?_
    refine w_region ?_
    refine rw_val (v := .bool (decide ((s : Int) < (sh : Int)))) (w' := w_2) rfl rfl rfl rfl (by simp [go_sem, sEv, sLook, nbeq, i64_w]) ?_
    refine rw_end ?_
    refine w_seq ?_
    refine w_cond rfl rfl (fun cS => ?_) (fun cS => ?_)
    · refine w_skip ?_
      refine w_seq ?_
      refine w_block ?_
      refine w_seq ?_
      refine w_region ?_
      refine rw_val (v := .int .i64 (s : Int)) (w' := w_2) rfl rfl rfl rfl rfl ?_
      refine rw_val (v := .int .i64 (s : Int)) (w' := w_2) rfl rfl rfl rfl rfl ?_
      refine rw_end ?_
      refine w_seq ?_
      refine w_region ?_
      refine rw_val (v := .int .i64 (i : Int)) (w' := w_2) rfl rfl rfl rfl rfl ?_
      refine rw_val (v := .int .i64 (s : Int)) (w' := w_2) rfl rfl rfl rfl rfl ?_
      refine rw_val (v := .int .i64 (sh : Int)) (w' := w_2) rfl rfl rfl rfl rfl ?_
      refine rw_call rfl rfl rfl rfl (f := 13) (args := #[.int .i64 (i : Int), .int .i64 (s : Int), .int .i64 (sh : Int)]) (by simp [go_sem, sEv, sLook, nbeq, i64_w]) (place_Lane.calls (i : Int) (s : Int) (sh : Int) ((i * sh + s : Nat) : Int) w_2 (lane_f i s sh (by omega) (by omega) (by omega))) ?_
      rintro e_ w9 ⟨rfl, hb10_⟩
      refine ⟨_, rfl, ?_⟩
      have hb10 := hb10_.below
      have hs_w9 := hb10.size
      refine rw_val (v := .int .i64 ((i * sh + s : Nat) : Int)) (w' := w9) rfl rfl rfl rfl rfl ?_
      refine rw_end ?_
      refine w_weaken (G' := [(0, .int .i64 (re : Int)), (1, .int .i64 (sh : Int)), (5, .map (some g3)), (6, .int .i64 (i : Int)), (8, .int .i64 ((i * sh + s : Nat) : Int)), (24, .int .i64 (re : Int)), (25, .int .i64 (i : Int)), (28, .int .i64 (sh : Int)), (29, .int .i64 (s : Int))]) ⟨rfl, rfl, rfl, rfl, rfl, rfl, rfl, rfl, rfl, trivial⟩ ?_
      refine w_seq ?_
      refine w_seq ?_
      refine w_region ?_
      refine rw_val (v := .int .i64 ((i * sh + s : Nat) : Int)) (w' := w9) rfl rfl rfl rfl rfl ?_
      refine rw_val (v := .bool (decide (((i * sh + s : Nat) : Int) < 0))) (w' := w9) rfl rfl rfl rfl (by simp [go_sem, sEv, sLook, nbeq, i64_w]) ?_
      refine rw_val (v := .bool (decide (((i * sh + s : Nat) : Int) < 0))) (w' := w9) rfl rfl rfl rfl rfl ?_
      have hq11 : (decide (((i * sh + s : Nat) : Int) < 0)) = false := by exact decide_eq_false (by omega)
      refine rw_on (c := decide (((i * sh + s : Nat) : Int) < 0)) rfl rfl rfl (by first | (rw [hq11]; rfl) | simp [hq11]) ?_
      refine rw_val (v := .int .i64 ((i * sh + s : Nat) : Int)) (w' := w9) rfl rfl rfl rfl rfl ?_
      refine rw_on (c := decide (((i * sh + s : Nat) : Int) < 0)) rfl rfl rfl (by first | (rw [hq11]; rfl) | simp [hq11]) ?_
      refine rw_val (v := .int .i64 (re : Int)) (w' := w9) rfl rfl rfl rfl rfl ?_
      refine rw_on (c := decide (((i * sh + s : Nat) : Int) < 0)) rfl rfl rfl (by first | (rw [hq11]; rfl) | simp [hq11]) ?_
      refine rw_val (v := .int .i64 (sh : Int)) (w' := w9) rfl rfl rfl rfl rfl ?_
      refine rw_on (c := decide (((i * sh + s : Nat) : Int) < 0)) rfl rfl rfl (by first | (rw [hq11]; rfl) | simp [hq11]) ?_
      refine rw_val (v := .int .i64 ((re * sh : Nat) : Int)) (w' := w9) rfl rfl rfl rfl (by simp [go_sem, sEv, sLook, nbeq, i64_w]; rw [← Int.natCast_mul]; exact wrap_id (by omega) (by omega)) ?_
      refine rw_on (c := decide (((i * sh + s : Nat) : Int) < 0)) rfl rfl rfl (by first | (rw [hq11]; rfl) | simp [hq11]) ?_
      refine rw_val (v := .bool (decide (((re * sh : Nat) : Int) ≤ ((i * sh + s : Nat) : Int)))) (w' := w9) rfl rfl rfl rfl (by simp [go_sem, sEv, sLook, nbeq, i64_w]) ?_
      refine rw_val (v := .bool (decide (((re * sh : Nat) : Int) ≤ ((i * sh + s : Nat) : Int)))) (w' := w9) rfl rfl rfl rfl (by first | (simp [go_sem, sEv, sLook, nbeq, i64_w, hq11]; done) | (rw [hq11]; simp [go_sem, sEv, sLook, nbeq, i64_w]; done) | (simp [go_sem, sEv, sLook, nbeq, i64_w] <;> omega)) ?_
      refine rw_val (v := .bool (decide (((re * sh : Nat) : Int) ≤ ((i * sh + s : Nat) : Int)))) (w' := w9) rfl rfl rfl rfl rfl ?_
      have hq12 : (decide (((re * sh : Nat) : Int) ≤ ((i * sh + s : Nat) : Int))) = false := by have l_ := of_decide_eq_true cS; exact decide_eq_false (by omega)
      refine rw_on (c := decide (((re * sh : Nat) : Int) ≤ ((i * sh + s : Nat) : Int))) rfl rfl rfl (by first | (rw [hq12]; rfl) | simp [hq12]) ?_
      refine rw_val (v := .map (some g3)) (w' := w9) rfl rfl rfl rfl rfl ?_
      refine rw_on (c := decide (((re * sh : Nat) : Int) ≤ ((i * sh + s : Nat) : Int))) rfl rfl rfl (by first | (rw [hq12]; rfl) | simp [hq12]) ?_
      refine rw_val (v := .int .i64 ((i * sh + s : Nat) : Int)) (w' := w9) rfl rfl rfl rfl rfl ?_
      refine rw_on (c := decide (((re * sh : Nat) : Int) ≤ ((i * sh + s : Nat) : Int))) rfl rfl rfl (by first | (rw [hq12]; rfl) | simp [hq12]) ?_
      refine rw_val (v := .int .i64 0) (w' := w9) rfl rfl rfl rfl (run_as (lookup_none (hM2_.on hb10))) ?_
      refine rw_on (c := decide (((re * sh : Nat) : Int) ≤ ((i * sh + s : Nat) : Int))) rfl rfl rfl (by first | (rw [hq12]; rfl) | simp [hq12]) ?_
      refine rw_val (v := .bool false) (w' := w9) rfl rfl rfl rfl (by simp [go_sem, sEv, sLook, nbeq, i64_w]) ?_
      refine rw_val (v := .bool false) (w' := w9) rfl rfl rfl rfl (by first | (simp [go_sem, sEv, sLook, nbeq, i64_w, hq12]; done) | (rw [hq12]; simp [go_sem, sEv, sLook, nbeq, i64_w]; done) | (simp [go_sem, sEv, sLook, nbeq, i64_w] <;> omega)) ?_
      refine rw_end ?_
      refine w_weaken (G' := [(0, .int .i64 (re : Int)), (1, .int .i64 (sh : Int)), (5, .map (some g3)), (6, .int .i64 (i : Int)), (8, .int .i64 ((i * sh + s : Nat) : Int)), (24, .int .i64 (re : Int)), (25, .int .i64 (i : Int)), (28, .int .i64 (sh : Int)), (29, .int .i64 (s : Int)), (50, .bool false)]) ⟨rfl, rfl, rfl, rfl, rfl, rfl, rfl, rfl, rfl, rfl, trivial⟩ ?_
      refine w_cond_f rfl rfl rfl ?_
      refine w_skip ?_
      refine w_region ?_
      refine rw_val (v := .map (some g3)) (w' := w9) rfl rfl rfl rfl rfl ?_
      refine rw_val (v := .int .i64 ((i * sh + s : Nat) : Int)) (w' := w9) rfl rfl rfl rfl rfl ?_
      refine rw_val (v := .int .i64 0) (w' := w9) rfl rfl rfl rfl (run_as (lookup_none (hM2_.on hb10))) ?_
      refine rw_val (v := .int .i64 1) (w' := w9) rfl rfl rfl rfl (by simp [go_sem, sEv, sLook, nbeq, i64_w]; exact wrap_id (by omega) (by omega)) ?_
      obtain ⟨w13, hr14, hk15, hm16⟩ := update_new (hM2_.on hb10) (.int .i64 1)
      refine rw_skip rfl rfl rfl (w' := w13) (run_skip hr14) ?_
      have hs_w13 := hk15.size
      refine rw_end ?_
      refine w_weaken (G' := [(0, .int .i64 (re : Int)), (1, .int .i64 (sh : Int)), (5, .map (some g3)), (6, .int .i64 (i : Int)), (24, .int .i64 (re : Int)), (25, .int .i64 (i : Int)), (28, .int .i64 (sh : Int)), (29, .int .i64 (s : Int))]) ⟨rfl, rfl, rfl, rfl, rfl, rfl, rfl, rfl, trivial⟩ ?_
      refine w_blk ?_
      refine w_region ?_
      refine rw_val (v := .int .i64 ((s + 1 : Nat) : Int)) (w' := w13) rfl rfl rfl rfl (by simp [go_sem, sEv, sLook, nbeq, i64_w]; have l_ := of_decide_eq_true cS; exact wrap_id (by omega) (by omega)) ?_
      refine rw_val (v := .int .i64 ((s + 1 : Nat) : Int)) (w' := w13) rfl rfl rfl rfl rfl ?_
      refine rw_end ?_
      have l_ := of_decide_eq_true cS
      exact w_back (m2_ - 1) [(0, .int .i64 (re : Int)), (1, .int .i64 (sh : Int)), (5, .map (some g3)), (24, .int .i64 (re : Int)), (25, .int .i64 (i : Int)), (6, .int .i64 (i : Int)), (28, .int .i64 (sh : Int)), (29, .int .i64 ((s + 1 : Nat) : Int))] (by omega) ⟨rfl, rfl, rfl, rfl, rfl, rfl, rfl, rfl, trivial⟩ ⟨s + 1, by omega, (hk15.below (by omega) (chain hBw2_ hb10)), hm16, rfl⟩
    · have l2_ := of_decide_eq_false cS
      have es_ : s = sh := by omega
      rw [es_] at hM2_
      refine w_exit rfl ?_
      refine w_blk ?_
      refine w_region ?_
      refine rw_val (v := .int .i64 ((i + 1 : Nat) : Int)) (w' := w_2) rfl rfl rfl rfl (by simp [go_sem, sEv, sLook, nbeq, i64_w]; have l_ := of_decide_eq_true cI; exact wrap_id (by omega) (by omega)) ?_
      refine rw_val (v := .int .i64 ((i + 1 : Nat) : Int)) (w' := w_2) rfl rfl rfl rfl rfl ?_
      refine rw_end ?_
      have l_ := of_decide_eq_true cI
      exact w_back (m_ - 1) [(0, .int .i64 (re : Int)), (1, .int .i64 (sh : Int)), (5, .map (some g3)), (24, .int .i64 (re : Int)), (25, .int .i64 ((i + 1 : Nat) : Int))] (by omega) ⟨rfl, rfl, rfl, rfl, rfl, trivial⟩ ⟨i + 1, by omega, hBw2_, by rw [Nat.succ_mul]; exact hM2_, rfl⟩
  · have l_ := of_decide_eq_false cI
    have ei_ : i = re := by omega
    rw [ei_] at hM_
    refine w_exit rfl ?_
    refine w_seq ?_
    refine w_seq ?_
    refine w_region ?_
    refine rw_val (v := .int .i64 (-9)) (w' := w_) rfl rfl rfl rfl rfl ?_
    refine rw_end ?_
    refine w_block ?_
    refine w_loop (fun m_ G W_ => ∃ key : Int, -9 ≤ key ∧ key + m_ = 9 ∧ Below w.heap.size w W_ ∧ MapAt W_ g3 (re * sh) ∧ G = [(0, .int .i64 (re : Int)), (1, .int .i64 (sh : Int)), (5, .map (some g3)), (9, .int .i64 key)]) 18 [(0, .int .i64 (re : Int)), (1, .int .i64 (sh : Int)), (5, .map (some g3)), (9, .int .i64 (-9))] ⟨-9, by omega, by omega, hBw_, hM_, rfl⟩ ⟨rfl, rfl, rfl, rfl, trivial⟩ ?_
    rintro m3_ G w_3 ⟨key, hk1, hk2, hBw3_, hM3_, rfl⟩
    have hs_w_3 := hBw3_.size
    refine w_seq ?_
    refine w_seq ?_
    refine w_region ?_
    refine rw_val (v := .int .i64 key) (w' := w_3) rfl rfl rfl rfl rfl ?_
    refine rw_val (v := .bool (decide (key < 9))) (w' := w_3) rfl rfl rfl rfl (by simp [go_sem, sEv, sLook, nbeq, i64_w]) ?_
    refine rw_end ?_
    refine w_cond rfl rfl (fun cK => ?_) (fun cK => ?_)
    · refine w_skip ?_
      refine w_seq ?_
      refine w_block ?_
      refine w_seq ?_
      refine w_region ?_
      refine rw_val (v := .int .i64 key) (w' := w_3) rfl rfl rfl rfl rfl ?_
      refine rw_val (v := .int .i64 (sh : Int)) (w' := w_3) rfl rfl rfl rfl rfl ?_
      refine rw_call rfl rfl rfl rfl (f := 14) (args := #[.int .i64 key, .int .i64 (sh : Int)]) (by simp [go_sem, sEv, sLook, nbeq, i64_w]) (place_Shard.calls key (sh : Int) (key % (sh : Int)) w_3 (shard_f (by omega) (by omega) (by omega) (by omega))) ?_
      rintro e_ w17 ⟨rfl, hb18_⟩
      refine ⟨_, rfl, ?_⟩
      have hb18 := hb18_.below
      have hs_w17 := hb18.size
      refine rw_val (v := .int .i64 (key % (sh : Int))) (w' := w17) rfl rfl rfl rfl rfl ?_
      refine rw_end ?_
      refine w_weaken (G' := [(0, .int .i64 (re : Int)), (1, .int .i64 (sh : Int)), (5, .map (some g3)), (9, .int .i64 key), (10, .int .i64 (key % (sh : Int)))]) ⟨rfl, rfl, rfl, rfl, rfl, trivial⟩ ?_
      refine w_seq ?_
      refine w_region ?_
      refine rw_val (v := .int .i64 (key % (sh : Int))) (w' := w17) rfl rfl rfl rfl rfl ?_
      refine rw_val (v := .int .i64 key) (w' := w17) rfl rfl rfl rfl rfl ?_
      refine rw_val (v := .int .i64 (sh : Int)) (w' := w17) rfl rfl rfl rfl rfl ?_
      refine rw_val (v := .int .i64 (key + (sh : Int))) (w' := w17) rfl rfl rfl rfl (by simp [go_sem, sEv, sLook, nbeq, i64_w]; exact wrap_id (by omega) (by omega)) ?_
      refine rw_val (v := .int .i64 (sh : Int)) (w' := w17) rfl rfl rfl rfl rfl ?_
      refine rw_call rfl rfl rfl rfl (f := 14) (args := #[.int .i64 (key + (sh : Int)), .int .i64 (sh : Int)]) (by simp [go_sem, sEv, sLook, nbeq, i64_w]) (place_Shard.calls (key + (sh : Int)) (sh : Int) ((key + (sh : Int)) % (sh : Int)) w17 (shard_f (by omega) (by omega) (by omega) (by omega))) ?_
      rintro e_ w19 ⟨rfl, hb20_⟩
      refine ⟨_, rfl, ?_⟩
      have hb20 := hb20_.below
      have hs_w19 := hb20.size
      refine rw_val (v := .bool ((key % (sh : Int)) != ((key + (sh : Int)) % (sh : Int)))) (w' := w19) rfl rfl rfl rfl (by simp [go_sem, sEv, sLook, nbeq, i64_w]) ?_
      refine rw_val (v := .bool ((key % (sh : Int)) != ((key + (sh : Int)) % (sh : Int)))) (w' := w19) rfl rfl rfl rfl rfl ?_
      have hq21 : ((key % (sh : Int)) != ((key + (sh : Int)) % (sh : Int))) = false := by rw [Int.add_emod_right]; simp
      refine rw_on (c := ((key % (sh : Int)) != ((key + (sh : Int)) % (sh : Int)))) rfl rfl rfl (by first | (rw [hq21]; rfl) | simp [hq21]) ?_
      refine rw_val (v := .int .i64 (key % (sh : Int))) (w' := w19) rfl rfl rfl rfl rfl ?_
      refine rw_on (c := ((key % (sh : Int)) != ((key + (sh : Int)) % (sh : Int)))) rfl rfl rfl (by first | (rw [hq21]; rfl) | simp [hq21]) ?_
      refine rw_val (v := .bool (decide ((key % (sh : Int)) < 0))) (w' := w19) rfl rfl rfl rfl (by simp [go_sem, sEv, sLook, nbeq, i64_w]) ?_
      refine rw_val (v := .bool (decide ((key % (sh : Int)) < 0))) (w' := w19) rfl rfl rfl rfl (by first | (simp [go_sem, sEv, sLook, nbeq, i64_w, hq21]; done) | (rw [hq21]; simp [go_sem, sEv, sLook, nbeq, i64_w]; done) | (simp [go_sem, sEv, sLook, nbeq, i64_w] <;> omega)) ?_
      refine rw_val (v := .bool (decide ((key % (sh : Int)) < 0))) (w' := w19) rfl rfl rfl rfl rfl ?_
      have hq22 : (decide ((key % (sh : Int)) < 0)) = false := by exact decide_eq_false (by have h_ := Int.emod_nonneg key (show (sh : Int) ≠ 0 by omega); omega)
      refine rw_on (c := decide ((key % (sh : Int)) < 0)) rfl rfl rfl (by first | (rw [hq22]; rfl) | simp [hq22]) ?_
      refine rw_val (v := .int .i64 (key % (sh : Int))) (w' := w19) rfl rfl rfl rfl rfl ?_
      refine rw_on (c := decide ((key % (sh : Int)) < 0)) rfl rfl rfl (by first | (rw [hq22]; rfl) | simp [hq22]) ?_
      refine rw_val (v := .int .i64 (sh : Int)) (w' := w19) rfl rfl rfl rfl rfl ?_
      refine rw_on (c := decide ((key % (sh : Int)) < 0)) rfl rfl rfl (by first | (rw [hq22]; rfl) | simp [hq22]) ?_
      refine rw_val (v := .bool (decide ((sh : Int) ≤ (key % (sh : Int))))) (w' := w19) rfl rfl rfl rfl (by simp [go_sem, sEv, sLook, nbeq, i64_w]) ?_
      refine rw_val (v := .bool (decide ((sh : Int) ≤ (key % (sh : Int))))) (w' := w19) rfl rfl rfl rfl (by first | (simp [go_sem, sEv, sLook, nbeq, i64_w, hq22]; done) | (rw [hq22]; simp [go_sem, sEv, sLook, nbeq, i64_w]; done) | (simp [go_sem, sEv, sLook, nbeq, i64_w] <;> omega)) ?_
      refine rw_end ?_
      refine w_weaken (G' := [(0, .int .i64 (re : Int)), (1, .int .i64 (sh : Int)), (5, .map (some g3)), (9, .int .i64 key), (79, .bool (decide ((sh : Int) ≤ (key % (sh : Int)))))]) ⟨rfl, rfl, rfl, rfl, rfl, trivial⟩ ?_
      have hq23 : (decide ((sh : Int) ≤ (key % (sh : Int)))) = false := by exact decide_eq_false (by have h_ := Int.emod_lt_of_pos key (show 0 < (sh : Int) by omega); omega)
      refine w_cond_f rfl rfl hq23 ?_
      refine w_skip ?_
      refine w_blk ?_
      refine w_region ?_
      refine rw_val (v := .int .i64 key) (w' := w19) rfl rfl rfl rfl rfl ?_
      refine rw_val (v := .int .i64 (key + 1)) (w' := w19) rfl rfl rfl rfl (by simp [go_sem, sEv, sLook, nbeq, i64_w]; exact wrap_id (by omega) (by omega)) ?_
      refine rw_val (v := .int .i64 (key + 1)) (w' := w19) rfl rfl rfl rfl rfl ?_
      refine rw_end ?_
      have l_ := of_decide_eq_true cK
      exact w_back (m3_ - 1) [(0, .int .i64 (re : Int)), (1, .int .i64 (sh : Int)), (5, .map (some g3)), (9, .int .i64 (key + 1))] (by omega) ⟨rfl, rfl, rfl, rfl, trivial⟩ ⟨key + 1, by omega, by omega, (chain (chain hBw3_ hb18) hb20), (hM3_.on (chain hb18 hb20)), rfl⟩
    · refine w_exit rfl ?_
      refine w_seq ?_
      refine w_region ?_
      refine rw_val (v := .map (some g3)) (w' := w_3) rfl rfl rfl rfl rfl ?_
      refine rw_val (v := .int .i64 ((re * sh : Nat) : Int)) (w' := w_3) rfl rfl rfl rfl (by obtain ⟨es_, c_, h1_, h2_, _⟩ := hM3_; simp [go_sem, sEv, sLook, nbeq, i64_w, Builtin.len_, run_underlying Try.underlying35, Go.MapKept.run_getObj_map h1_, goInt, h2_, Result.andThen]) ?_
      refine rw_val (v := .int .i64 (re : Int)) (w' := w_3) rfl rfl rfl rfl rfl ?_
      refine rw_val (v := .int .i64 (sh : Int)) (w' := w_3) rfl rfl rfl rfl rfl ?_
      refine rw_val (v := .int .i64 ((re * sh : Nat) : Int)) (w' := w_3) rfl rfl rfl rfl (by simp [go_sem, sEv, sLook, nbeq, i64_w]; rw [← Int.natCast_mul]; exact wrap_id (by omega) (by omega)) ?_
      refine rw_val (v := .bool true) (w' := w_3) rfl rfl rfl rfl (by simp [go_sem, sEv, sLook, nbeq, i64_w]) ?_
      refine rw_val (v := .bool true) (w' := w_3) rfl rfl rfl rfl rfl ?_
      refine rw_end ?_
      refine w_weaken (G' := [(4, .bool true)]) ⟨rfl, trivial⟩ ?_
      refine w_ret (post_ret1 rfl rfl ?_)
      exact ⟨rfl, hBw3_⟩

theorem mod_nat (k : Int) (m : Nat) (hm : 0 < m) : ∃ n : Nat, Int.tmod (IntKind.u64.wrap k) (m : Int) = (n : Int) ∧ n < m := by
  have h0 : 0 ≤ IntKind.u64.wrap k := by rw [u64_wrap]; omega
  have h1 := Int.emod_nonneg (IntKind.u64.wrap k) (show (m : Int) ≠ 0 by omega)
  have h2 := Int.emod_lt_of_pos (IntKind.u64.wrap k) (show 0 < (m : Int) by omega)
  rw [Int.tmod_eq_emod_of_nonneg h0]
  obtain ⟨n, hn⟩ := Int.eq_ofNat_of_zero_le h1
  exact ⟨n, hn, by omega⟩
theorem walkLanes (kr ks : Int) (w : World) : Calls Try.prog 4 #[.int .i64 kr, .int .i64 ks] w fun e w' => e = .returned (.bool true) ∧ Below w.heap.size w w' := by
  obtain ⟨r0, h1, h2⟩ := mod_nat kr 3 (by omega)
  obtain ⟨s0, h3, h4⟩ := mod_nat ks 4 (by omega)
  exact lanes_nat kr ks r0 s0 _ _ h1 h2 rfl h3 h4 rfl (Nat.mul_le_mul (show r0 + 1 ≤ 3 by omega) (show s0 + 1 ≤ 4 by omega)) w
end Go.Proofs.Ytgedckgkddpkkaa.PPlaceLanes
