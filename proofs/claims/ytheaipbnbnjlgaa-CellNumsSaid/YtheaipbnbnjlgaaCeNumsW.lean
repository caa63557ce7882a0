/- A cell's numbers: the walks. -/
import Derived.Test.YtheaipbnbnjlgaaCeNums
import Derived.Test.YtheaipbnbnjlgaaCeJoin
import Derived.Test.YtheaipbnbnjlgaaFlowZ
namespace Go.Proofs.Ytheaipbnbnjlgaa.Ce
open Go.RowKit Go.Proofs.YtheaipbnbnjlgaaW.PrintWords Go.Proofs.YtheaipbnbnjlgaaW.PrintLast Go.Proofs.YtheaipbnbnjlgaaW.PrintMore
open Go.Proofs.Ytheaipbnbnjlgaa.Flow
set_option linter.unusedVariables false
set_option linter.unusedSimpArgs false


theorem quo_pairs (n : Nat) : Int.tdiv ((2 * n : Nat) : Int) 2 = (n : Int) := by
  rw [Int.tdiv_eq_ediv_of_nonneg (by omega)]
  omega
set_option maxHeartbeats 4000000 in
theorem nums_calls (w : World) (c : CL) :
    Calls Try.prog 19 #[.agg (carr c)] w fun e w' => ∃ A' c', e = .returned (.slice A' (numsC c).length c') ∧ OwnK (Kd.int .i64) 3 w' w.heap.size w.heap.size A' (numsC c).length c' (numsC c) ∧ Below w.heap.size w w' := by
  refine calls_flow Try.func19 rfl 52 rfl (Nat.le_of_ble_eq_true rfl) [(0, .agg (carr c))] ?_ ?_
  · intro t v h; exact args_look rfl t v h
  refine w_seq ?_
  refine w_region ?_
  refine rw_new (cs := carr c) (t := 31) (fun g => .pointer (some ⟨g, 0, none⟩)) rfl rfl rfl rfl (by simp [go_sem, sEv, sLook, nbeq, i64_w, -List.getD_eq_getElem?_getD]) ?_
  intro g1 w2 hg6 hz5 hb3 hk4
  have hs_w2 := hb3.size
  refine rw_val (v := .slice none 0 0) (w' := w2) rfl rfl rfl rfl rfl ?_
  refine rw_end ?_
  refine w_seq ?_
  refine w_region ?_
  refine rw_val (v := .pointer (some ⟨g1, 0, none⟩)) (w' := w2) rfl rfl rfl rfl (by simp [go_sem, sEv, sLook, nbeq, i64_w, -List.getD_eq_getElem?_getD, Try.underlying31]) ?_
  refine rw_val (v := .int .i64 c.cnt) (w' := w2) rfl rfl rfl rfl (by have eb_ := hk4; have e0_ := eb_.cellv (v := .int .i64 c.cnt) (cA0 c); simp [go_sem, sEv, sLook, nbeq, i64_w, -List.getD_eq_getElem?_getD, e0_]) ?_
  refine rw_val (v := .pointer (some ⟨g1, 1, none⟩)) (w' := w2) rfl rfl rfl rfl (by simp [go_sem, sEv, sLook, nbeq, i64_w, -List.getD_eq_getElem?_getD, Try.underlying31]) ?_
  refine rw_val (v := .pointer (some ⟨g1, 1, none⟩)) (w' := w2) rfl rfl rfl rfl (by simp [go_sem, sEv, sLook, nbeq, i64_w, -List.getD_eq_getElem?_getD, Try.underlying26]) ?_
  refine rw_val (v := .int .i64 c.hi) (w' := w2) rfl rfl rfl rfl (by have eb_ := hk4; have e0_ := eb_.cellv (v := .int .i64 c.hi) (cA1 c); simp [go_sem, sEv, sLook, nbeq, i64_w, -List.getD_eq_getElem?_getD, e0_]) ?_
  refine rw_val (v := .pointer (some ⟨g1, 1, none⟩)) (w' := w2) rfl rfl rfl rfl (by simp [go_sem, sEv, sLook, nbeq, i64_w, -List.getD_eq_getElem?_getD, Try.underlying31]) ?_
  refine rw_val (v := .pointer (some ⟨g1, 2, none⟩)) (w' := w2) rfl rfl rfl rfl (by simp [go_sem, sEv, sLook, nbeq, i64_w, -List.getD_eq_getElem?_getD, Try.underlying26]) ?_
  refine rw_val (v := .int .u64 c.lo) (w' := w2) rfl rfl rfl rfl (by have eb_ := hk4; have e0_ := eb_.cellv (v := .int .u64 c.lo) (cA2 c); simp [go_sem, sEv, sLook, nbeq, i64_w, -List.getD_eq_getElem?_getD, e0_]) ?_
  refine rw_val (v := .int .i64 (wrap64 (c.lo))) (w' := w2) rfl rfl rfl rfl (by simp [go_sem, sEv, sLook, nbeq, i64_w, -List.getD_eq_getElem?_getD, Try.underlying24, Try.underlying3]) ?_
  refine rw_val (v := .pointer (some ⟨g1, 3, none⟩)) (w' := w2) rfl rfl rfl rfl (by simp [go_sem, sEv, sLook, nbeq, i64_w, -List.getD_eq_getElem?_getD, Try.underlying31]) ?_
  refine rw_val (v := .int .i64 c.mn) (w' := w2) rfl rfl rfl rfl (by have eb_ := hk4; have e0_ := eb_.cellv (v := .int .i64 c.mn) (cA3 c); simp [go_sem, sEv, sLook, nbeq, i64_w, -List.getD_eq_getElem?_getD, e0_]) ?_
  refine rw_val (v := .pointer (some ⟨g1, 4, none⟩)) (w' := w2) rfl rfl rfl rfl (by simp [go_sem, sEv, sLook, nbeq, i64_w, -List.getD_eq_getElem?_getD, Try.underlying31]) ?_
  refine rw_val (v := .int .i64 c.mx) (w' := w2) rfl rfl rfl rfl (by have eb_ := hk4; have e0_ := eb_.cellv (v := .int .i64 c.mx) (cA4 c); simp [go_sem, sEv, sLook, nbeq, i64_w, -List.getD_eq_getElem?_getD, e0_]) ?_
  refine rw_val (v := .pointer (some ⟨g1, 5, none⟩)) (w' := w2) rfl rfl rfl rfl (by simp [go_sem, sEv, sLook, nbeq, i64_w, -List.getD_eq_getElem?_getD, Try.underlying31]) ?_
  refine rw_val (v := .pointer (some ⟨g1, 5, none⟩)) (w' := w2) rfl rfl rfl rfl (by simp [go_sem, sEv, sLook, nbeq, i64_w, -List.getD_eq_getElem?_getD, Try.underlying28]) ?_
  refine rw_val (v := .int .i64 c.t) (w' := w2) rfl rfl rfl rfl (by have eb_ := hk4; have e0_ := eb_.cellv (v := .int .i64 c.t) (cA5 c); simp [go_sem, sEv, sLook, nbeq, i64_w, -List.getD_eq_getElem?_getD, e0_]) ?_
  refine rw_val (v := .pointer (some ⟨g1, 5, none⟩)) (w' := w2) rfl rfl rfl rfl (by simp [go_sem, sEv, sLook, nbeq, i64_w, -List.getD_eq_getElem?_getD, Try.underlying31]) ?_
  refine rw_val (v := .pointer (some ⟨g1, 6, none⟩)) (w' := w2) rfl rfl rfl rfl (by simp [go_sem, sEv, sLook, nbeq, i64_w, -List.getD_eq_getElem?_getD, Try.underlying28]) ?_
  refine rw_val (v := .int .i64 c.src) (w' := w2) rfl rfl rfl rfl (by have eb_ := hk4; have e0_ := eb_.cellv (v := .int .i64 c.src) (cA6 c); simp [go_sem, sEv, sLook, nbeq, i64_w, -List.getD_eq_getElem?_getD, e0_]) ?_
  refine rw_val (v := .pointer (some ⟨g1, 5, none⟩)) (w' := w2) rfl rfl rfl rfl (by simp [go_sem, sEv, sLook, nbeq, i64_w, -List.getD_eq_getElem?_getD, Try.underlying31]) ?_
  refine rw_val (v := .pointer (some ⟨g1, 7, none⟩)) (w' := w2) rfl rfl rfl rfl (by simp [go_sem, sEv, sLook, nbeq, i64_w, -List.getD_eq_getElem?_getD, Try.underlying28]) ?_
  refine rw_val (v := .int .i64 c.seq) (w' := w2) rfl rfl rfl rfl (by have eb_ := hk4; have e0_ := eb_.cellv (v := .int .i64 c.seq) (cA7 c); simp [go_sem, sEv, sLook, nbeq, i64_w, -List.getD_eq_getElem?_getD, e0_]) ?_
  refine rw_val (v := .pointer (some ⟨g1, 5, none⟩)) (w' := w2) rfl rfl rfl rfl (by simp [go_sem, sEv, sLook, nbeq, i64_w, -List.getD_eq_getElem?_getD, Try.underlying31]) ?_
  refine rw_val (v := .pointer (some ⟨g1, 8, none⟩)) (w' := w2) rfl rfl rfl rfl (by simp [go_sem, sEv, sLook, nbeq, i64_w, -List.getD_eq_getElem?_getD, Try.underlying28]) ?_
  refine rw_val (v := .int .i64 c.v) (w' := w2) rfl rfl rfl rfl (by have eb_ := hk4; have e0_ := eb_.cellv (v := .int .i64 c.v) (cA8 c); simp [go_sem, sEv, sLook, nbeq, i64_w, -List.getD_eq_getElem?_getD, e0_]) ?_
  refine rw_new (cs := #[.int .i64 c.cnt, .int .i64 c.hi, .int .i64 (wrap64 (c.lo)), .int .i64 c.mn, .int .i64 c.mx, .int .i64 c.t, .int .i64 c.src, .int .i64 c.seq, .int .i64 c.v, .int .i64 0]) (t := 3) (fun g => .slice (some ⟨g, 0, none⟩) 10 10) rfl rfl rfl rfl (by kernel_rfl) ?_
  intro g7 w8 hg12 hz11 hb9 hk10
  have hs_w8 := hb9.size
  have hk10r : OwnK (Kd.int .i64) 3 w8 w.heap.size g7 (some ⟨g7, 0, none⟩) 10 10 ([c.cnt, c.hi, wrap64 (c.lo), c.mn, c.mx, c.t, c.src, c.seq, c.v, 0] : List Int) := scal_own w.heap.size hk10 (by omega) rfl rfl (by simp)
  refine rw_val (v := .slice (some ⟨g7, 0, none⟩) 10 10) (w' := w8) rfl rfl rfl rfl rfl ?_
  refine rw_end ?_
  refine w_weaken (G' := [(1, .pointer (some ⟨g1, 0, none⟩)), (2, .slice none 0 0), (3, .slice (some ⟨g7, 0, none⟩) 10 10)]) ⟨rfl, rfl, rfl, trivial⟩ ?_
  refine w_seq ?_
  refine w_seq ?_
  refine w_region ?_
  refine rw_val (v := .pointer (some ⟨g1, 9, none⟩)) (w' := w8) rfl rfl rfl rfl (by simp [go_sem, sEv, sLook, nbeq, i64_w, -List.getD_eq_getElem?_getD, Try.underlying31]) ?_
  refine rw_val (v := .agg (encH c.h).toArray) (w' := w8) rfl rfl rfl rfl (run_as (load_hist (c := c) (hk4.on hb9))) ?_
  refine rw_val (v := .int .i64 0) (w' := w8) rfl rfl rfl rfl rfl ?_
  refine rw_end ?_
  refine w_block ?_
  refine w_loop (fun m_ G W_ => ∃ (j : Nat) (A3_ : Option Addr) (c3_ : Nat), j + m_ = 65 ∧ Below w.heap.size w W_ ∧ OwnK (Kd.int .i64) 3 W_ w.heap.size w.heap.size A3_ (headC c ((pr c.h j).length : Int) ++ flatP (pr c.h j)).length c3_ (headC c ((pr c.h j).length : Int) ++ flatP (pr c.h j)) ∧ G = [(3, .slice A3_ ((headC c ((pr c.h j).length : Int) ++ flatP (pr c.h j)).length) c3_), (33, .agg (encH c.h).toArray), (34, .int .i64 ((j : Nat) : Int))]) 65 [(3, .slice (some ⟨g7, 0, none⟩) ((headC c ((pr c.h 0).length : Int) ++ flatP (pr c.h 0)).length) 10), (33, .agg (encH c.h).toArray), (34, .int .i64 0)] ⟨0, (some ⟨g7, 0, none⟩), 10, by omega, (chain hb3 hb9), (OwnK.mono (d := (Kd.int .i64)) hk10r (by omega)), rfl⟩ ⟨rfl, rfl, rfl, trivial⟩ ?_
  rintro m_ G w_L13 ⟨j, A3_, c3_, hp14, hB_L13, hO3_, rfl⟩
  have hs_w_L13 := hB_L13.size
  refine w_seq ?_
  refine w_region ?_
  refine rw_val (v := .bool (decide (((j : Nat) : Int) < 65))) (w' := w_L13) rfl rfl rfl rfl (by simp [go_sem, sEv, sLook, nbeq, i64_w, -List.getD_eq_getElem?_getD]) ?_
  refine rw_end ?_
  refine w_seq ?_
  refine w_cond rfl rfl (fun cJ => ?_) (fun cJ => ?_)
  · have l15 : (((j : Nat) : Int) < 65) := of_decide_eq_true cJ
    refine w_skip ?_
    refine w_seq ?_
    refine w_block ?_
    refine w_seq ?_
    refine w_region ?_
    refine rw_val (v := .int .i64 ((j : Nat) : Int)) (w' := w_L13) rfl rfl rfl rfl rfl ?_
    refine rw_val (v := .int .i64 (atF c.h j)) (w' := w_L13) rfl rfl rfl rfl (run_as (index_at c.h j (by omega) _)) ?_
    refine rw_val (v := .int .i64 ((j : Nat) : Int)) (w' := w_L13) rfl rfl rfl rfl rfl ?_
    refine rw_val (v := .int .i64 (atF c.h j)) (w' := w_L13) rfl rfl rfl rfl rfl ?_
    refine rw_end ?_
    refine w_weaken (G' := [(3, .slice A3_ ((headC c ((pr c.h j).length : Int) ++ flatP (pr c.h j)).length) c3_), (4, .int .i64 ((j : Nat) : Int)), (5, .int .i64 (atF c.h j)), (33, .agg (encH c.h).toArray), (34, .int .i64 ((j : Nat) : Int))]) ⟨rfl, rfl, rfl, rfl, rfl, trivial⟩ ?_
    refine w_seq ?_
    refine w_region ?_
    refine rw_val (v := .int .i64 (atF c.h j)) (w' := w_L13) rfl rfl rfl rfl rfl ?_
    refine rw_val (v := .bool ((atF c.h j) != 0)) (w' := w_L13) rfl rfl rfl rfl (by simp [go_sem, sEv, sLook, nbeq, i64_w, -List.getD_eq_getElem?_getD]) ?_
    refine rw_end ?_
    refine w_cond rfl rfl (fun cZ => ?_) (fun cZ => ?_)
    · have l16 : ¬ (atF c.h j) = 0 := by simpa using cZ
      refine w_seq ?_
      refine w_region ?_
      refine rw_val (v := .slice A3_ ((headC c ((pr c.h j).length : Int) ++ flatP (pr c.h j)).length) c3_) (w' := w_L13) rfl rfl rfl rfl rfl ?_
      refine rw_val (v := .int .i64 ((j : Nat) : Int)) (w' := w_L13) rfl rfl rfl rfl rfl ?_
      refine rw_val (v := .int .i64 (atF c.h j)) (w' := w_L13) rfl rfl rfl rfl rfl ?_
      refine rw_new (cs := #[.int .i64 ((j : Nat) : Int), .int .i64 (atF c.h j)]) (t := 3) (fun g => .slice (some ⟨g, 0, none⟩) 2 2) rfl rfl rfl rfl (by kernel_rfl) ?_
      intro g17 w18 hg22 hz21 hb19 hk20
      have hs_w18 := hb19.size
      have hk20r : OwnK (Kd.int .i64) 3 w18 w.heap.size g17 (some ⟨g17, 0, none⟩) 2 2 ([((j : Nat) : Int), (atF c.h j)] : List Int) := scal_own w.heap.size hk20 (by omega) rfl rfl (by simp)
      have oA29 : OwnK (Kd.int .i64) 3 w18 w.heap.size w.heap.size A3_ ((headC c ((pr c.h j).length : Int) ++ flatP (pr c.h j)).length) c3_ (headC c ((pr c.h j).length : Int) ++ flatP (pr c.h j)) := (OwnK.on (d := (Kd.int .i64)) hO3_ hb19)
      refine rw_append_kd (d := (Kd.int .i64)) w.heap.size rfl rfl rfl (.tmp 40) (.tmp 43) rfl rfl 38 3 (.int .i64 0) 8 rfl (by kernel_rfl) (by kernel_rfl) rfl (show 0 < 1 by decide) (by decide) (fun _ _ h => h) (b := w.heap.size) rfl rfl (by omega) oA29 (OwnK.Cn (d := (Kd.int .i64)) hk20r) (chain hB_L13 hb19) (by omega) (by first | omega | (have q_ := pr_len c.h j; simp only [List.length_append, List.length_cons, List.length_nil, headC, flatP_len]; omega)) ?_
      intro A23 c24 w25 hO26 hB27 hG28
      have hs_w25 := hB27.size
      have hgs_w25 := hG28.size
      refine rw_val (v := .slice A23 (((headC c ((pr c.h j).length : Int) ++ flatP (pr c.h j)) ++ ([((j : Nat) : Int), (atF c.h j)] : List Int)).length) c24) (w' := w25) rfl rfl rfl rfl rfl ?_
      refine rw_end ?_
      refine w_weaken (G' := [(3, .slice A23 (((headC c ((pr c.h j).length : Int) ++ flatP (pr c.h j)) ++ ([((j : Nat) : Int), (atF c.h j)] : List Int)).length) c24), (33, .agg (encH c.h).toArray), (34, .int .i64 ((j : Nat) : Int))]) ⟨rfl, rfl, rfl, trivial⟩ ?_
      refine w_region ?_
      have e9_ : (((headC c ((pr c.h j).length : Int) ++ flatP (pr c.h j)) ++ ([((j : Nat) : Int), (atF c.h j)] : List Int))).getD 9 0 = ((pr c.h j).length : Int) := rfl
      have q9_ := pr_len c.h j
      have l9_ : 9 < (((headC c ((pr c.h j).length : Int) ++ flatP (pr c.h j)) ++ ([((j : Nat) : Int), (atF c.h j)] : List Int))).length := by simp only [List.length_append, List.length_cons, headC]; omega
      refine rw_val (v := .slice A23 (((headC c ((pr c.h j).length : Int) ++ flatP (pr c.h j)) ++ ([((j : Nat) : Int), (atF c.h j)] : List Int)).length) c24) (w' := w25) rfl rfl rfl rfl rfl ?_
      obtain ⟨g34, rfl⟩ := OwnK.adr (d := (Kd.int .i64)) hO26 (by first | omega | decide)
      obtain ⟨ad31, hA32, hc33⟩ := int_at (Kd.C_below (OwnK.C (d := (Kd.int .i64)) hO26) (Below.refl _ _)) 0 9 (by first | omega | decide)
      obtain rfl := Option.some.inj hA32
      have he35 : w25.cell? ⟨g34, 9, none⟩ = some (.int .i64 (((headC c ((pr c.h j).length : Int) ++ flatP (pr c.h j)) ++ ([((j : Nat) : Int), (atF c.h j)] : List Int)).getD 9 0)) := cell_g (hc33 0 _ rfl) rfl
      refine rw_val (v := .pointer (some ⟨g34, 9, none⟩)) (w' := w25) rfl rfl rfl rfl (by rw [← add_plain g34 (9)]; exact (run_as (run_at_1 (P := Try.prog) (e := 3) (by kernel_rfl) (by kernel_rfl) 9 (by first | omega | decide) _))) ?_
      refine rw_val (v := .int .i64 (((headC c ((pr c.h j).length : Int) ++ flatP (pr c.h j)) ++ ([((j : Nat) : Int), (atF c.h j)] : List Int)).getD 9 0)) (w' := w25) rfl rfl rfl rfl (by have e0_ := cellOn he35 (Below.refl _ _); simp [go_sem, sEv, sLook, nbeq, i64_w, -List.getD_eq_getElem?_getD, e0_]) ?_
      refine rw_val (v := .int .i64 (((pr c.h j).length + 1 : Nat) : Int)) (w' := w25) rfl rfl rfl rfl (by exact run_int (a := wrap64 ((((headC c ((pr c.h j).length : Int) ++ flatP (pr c.h j)) ++ ([((j : Nat) : Int), (atF c.h j)] : List Int))).getD 9 0 + 1)) (by simp [go_sem, sEv, sLook, nbeq, i64_w, -List.getD_eq_getElem?_getD]) (by rw [e9_]; unfold wrap64; omega)) ?_
      refine rw_val (v := .pointer (some ⟨g34, 9, none⟩)) (w' := w25) rfl rfl rfl rfl (by rw [← add_plain g34 (9)]; exact (run_as (run_at_1 (P := Try.prog) (e := 3) (by kernel_rfl) (by kernel_rfl) 9 (by first | omega | decide) _))) ?_
      have oA36 : OwnK (Kd.int .i64) 3 w25 w.heap.size w.heap.size (some ⟨g34, 0, none⟩) (((headC c ((pr c.h j).length : Int) ++ flatP (pr c.h j)) ++ ([((j : Nat) : Int), (atF c.h j)] : List Int)).length) c24 ((headC c ((pr c.h j).length : Int) ++ flatP (pr c.h j)) ++ ([((j : Nat) : Int), (atF c.h j)] : List Int)) := hO26
      refine rw_store_el (d := (Kd.int .i64)) w.heap.size rfl rfl 3 (.tmp 49) (.tmp 48) rfl rfl rfl 3 (i := 9) (((pr c.h j).length + 1 : Nat) : Int) [.int .i64 (((pr c.h j).length + 1 : Nat) : Int)] rfl (congrArg (fun z => (⟨_, z, none⟩ : Addr)) (Nat.mul_one _).symm) rfl rfl (by kernel_rfl) (by intro q hq; simp only [List.mem_cons, List.not_mem_nil, or_false] at hq; rcases hq with rfl <;> rfl) rfl oA36 (by omega) rfl hB27 ?_
      intro w37 hO38 hB39 hG40
      have hs_w37 := hB39.size
      have hgs_w37 := hG40.size
      refine rw_end ?_
      refine w_weaken (G' := [(3, .slice (some ⟨g34, 0, none⟩) (((headC c ((pr c.h j).length : Int) ++ flatP (pr c.h j)) ++ ([((j : Nat) : Int), (atF c.h j)] : List Int)).length) c24), (33, .agg (encH c.h).toArray), (34, .int .i64 ((j : Nat) : Int))]) ⟨rfl, rfl, rfl, trivial⟩ ?_
      refine w_blk ?_
      refine w_region ?_
      refine rw_val (v := .int .i64 ((j + 1 : Nat) : Int)) (w' := w37) rfl rfl rfl rfl (by simp [go_sem, sEv, sLook, nbeq, i64_w, -List.getD_eq_getElem?_getD]; exact wrap_id (by omega) (by omega)) ?_
      refine rw_val (v := .int .i64 ((j + 1 : Nat) : Int)) (w' := w37) rfl rfl rfl rfl rfl ?_
      refine rw_end ?_
      have e41 : (((headC c ((pr c.h j).length : Int) ++ flatP (pr c.h j)) ++ ([((j : Nat) : Int), (atF c.h j)] : List Int)).set 9 (((pr c.h j).length + 1 : Nat) : Int)) = (headC c ((pr c.h (j + 1)).length : Int) ++ flatP (pr c.h (j + 1))) := by (first | rw [pr_zero c.h j (by assumption)] | (rw [pr_more c.h j (by assumption), flatP_append, List.length_append]; rfl))
      have hO42 : OwnK (Kd.int .i64) 3 w37 w.heap.size w.heap.size (some ⟨g34, 0, none⟩) (headC c ((pr c.h (j + 1)).length : Int) ++ flatP (pr c.h (j + 1))).length c24 (headC c ((pr c.h (j + 1)).length : Int) ++ flatP (pr c.h (j + 1))) := by rw [← e41]; exact OwnK.full hO38
      have en43 : ((headC c ((pr c.h j).length : Int) ++ flatP (pr c.h j)) ++ ([((j : Nat) : Int), (atF c.h j)] : List Int)).length = (headC c ((pr c.h (j + 1)).length : Int) ++ flatP (pr c.h (j + 1))).length := by rw [← e41] <;> exact OwnK.len (d := (Kd.int .i64)) hO38
      exact w_back (m_ - 1) [(3, .slice (some ⟨g34, 0, none⟩) ((headC c ((pr c.h (j + 1)).length : Int) ++ flatP (pr c.h (j + 1))).length) c24), (33, .agg (encH c.h).toArray), (34, .int .i64 ((j + 1 : Nat) : Int))] (by omega) ⟨(by first | rfl | (rw [← en43]; rfl)), rfl, rfl, trivial⟩ ⟨(j + 1), (some ⟨g34, 0, none⟩), c24, by omega, hB39, (OwnK.mono (d := (Kd.int .i64)) hO42 (by omega)), rfl⟩
    · have l44 : (atF c.h j) = 0 := by simpa using cZ
      refine w_skip ?_
      refine w_blk ?_
      refine w_region ?_
      refine rw_val (v := .int .i64 ((j + 1 : Nat) : Int)) (w' := w_L13) rfl rfl rfl rfl (by simp [go_sem, sEv, sLook, nbeq, i64_w, -List.getD_eq_getElem?_getD]; exact wrap_id (by omega) (by omega)) ?_
      refine rw_val (v := .int .i64 ((j + 1 : Nat) : Int)) (w' := w_L13) rfl rfl rfl rfl rfl ?_
      refine rw_end ?_
      have e45 : (headC c ((pr c.h j).length : Int) ++ flatP (pr c.h j)) = (headC c ((pr c.h (j + 1)).length : Int) ++ flatP (pr c.h (j + 1))) := by (first | rw [pr_zero c.h j (by assumption)] | (rw [pr_more c.h j (by assumption), flatP_append, List.length_append]; rfl))
      have hO46 : OwnK (Kd.int .i64) 3 w_L13 w.heap.size w.heap.size A3_ (headC c ((pr c.h (j + 1)).length : Int) ++ flatP (pr c.h (j + 1))).length c3_ (headC c ((pr c.h (j + 1)).length : Int) ++ flatP (pr c.h (j + 1))) := by rw [← e45]; exact OwnK.full hO3_
      have en47 : (headC c ((pr c.h j).length : Int) ++ flatP (pr c.h j)).length = (headC c ((pr c.h (j + 1)).length : Int) ++ flatP (pr c.h (j + 1))).length := by rw [← e45] <;> exact OwnK.len (d := (Kd.int .i64)) hO3_
      exact w_back (m_ - 1) [(3, .slice A3_ ((headC c ((pr c.h (j + 1)).length : Int) ++ flatP (pr c.h (j + 1))).length) c3_), (33, .agg (encH c.h).toArray), (34, .int .i64 ((j + 1 : Nat) : Int))] (by omega) ⟨(by first | rfl | (rw [← en47]; rfl)), rfl, rfl, trivial⟩ ⟨(j + 1), A3_, c3_, by omega, hB_L13, (OwnK.mono (d := (Kd.int .i64)) hO46 (by omega)), rfl⟩
  · have l48 : ¬ (((j : Nat) : Int) < 65) := of_decide_eq_false cJ
    refine w_exit rfl ?_
    refine w_seq ?_
    refine w_region ?_
    refine rw_val (v := .slice A3_ ((headC c ((pr c.h j).length : Int) ++ flatP (pr c.h j)).length) c3_) (w' := w_L13) rfl rfl rfl rfl rfl ?_
    refine rw_val (v := .slice A3_ ((headC c ((pr c.h j).length : Int) ++ flatP (pr c.h j)).length) c3_) (w' := w_L13) rfl rfl rfl rfl rfl ?_
    refine rw_end ?_
    refine w_ret (post_ret1 rfl rfl ?_)
    have eX_ : (headC c ((pr c.h j).length : Int) ++ flatP (pr c.h j)) = numsC c := (by rw [show j = 65 by omega]; rfl)
    have hf_ := hO3_
    rw [eX_] at hf_
    rw [eX_]
    exact ⟨_, _, rfl, OwnK.mono (d := (Kd.int .i64)) hf_ (by omega), hB_L13⟩
set_option maxHeartbeats 4000000 in
theorem rnums_calls (w : World) (c : CL) :
    Calls Try.prog 20 #[.agg (carr c)] w fun e w' => ∃ A' c', e = .returned (.slice A' (numsC c).length c') ∧ OwnK (Kd.int .i64) 3 w' w.heap.size w.heap.size A' (numsC c).length c' (numsC c) ∧ Below w.heap.size w w' := by
  refine calls_flow Try.func20 rfl 55 rfl (Nat.le_of_ble_eq_true rfl) [(0, .agg (carr c))] ?_ ?_
  · intro t v h; exact args_look rfl t v h
  refine w_seq ?_
  refine w_region ?_
  refine rw_new (cs := carr c) (t := 31) (fun g => .pointer (some ⟨g, 0, none⟩)) rfl rfl rfl rfl (by simp [go_sem, sEv, sLook, nbeq, i64_w, -List.getD_eq_getElem?_getD]) ?_
  intro g1 w2 hg6 hz5 hb3 hk4
  have hs_w2 := hb3.size
  refine rw_val (v := .slice none 0 0) (w' := w2) rfl rfl rfl rfl rfl ?_
  refine rw_end ?_
  refine w_seq ?_
  refine w_region ?_
  refine rw_val (v := .slice none 0 0) (w' := w2) rfl rfl rfl rfl rfl ?_
  refine rw_end ?_
  refine w_seq ?_
  refine w_seq ?_
  refine w_region ?_
  refine rw_val (v := .int .i64 0) (w' := w2) rfl rfl rfl rfl rfl ?_
  refine rw_end ?_
  refine w_block ?_
  refine w_loop (fun m_ G W_ => ∃ (j : Nat) (A3_ : Option Addr) (c3_ : Nat), j + m_ = 65 ∧ Below w.heap.size w W_ ∧ OwnK (Kd.int .i64) 3 W_ w.heap.size w.heap.size A3_ (flatP (pr c.h j)).length c3_ (flatP (pr c.h j)) ∧ (Blk W_ g1 31 (carr c)) ∧ G = [(1, .pointer (some ⟨g1, 0, none⟩)), (3, .slice A3_ ((flatP (pr c.h j)).length) c3_), (4, .int .i64 ((j : Nat) : Int))]) 65 [(1, .pointer (some ⟨g1, 0, none⟩)), (3, .slice none ((flatP (pr c.h 0)).length) 0), (4, .int .i64 0)] ⟨0, none, 0, by omega, hb3, (OwnK.nil _ _ _ _ _), hk4, rfl⟩ ⟨rfl, rfl, rfl, trivial⟩ ?_
  rintro m_ G w_L7 ⟨j, A3_, c3_, hp8, hB_L7, hO3_, hf9, rfl⟩
  have hs_w_L7 := hB_L7.size
  have hltc_ := hf9.lt
  refine w_seq ?_
  refine w_seq ?_
  refine w_region ?_
  refine rw_val (v := .int .i64 ((j : Nat) : Int)) (w' := w_L7) rfl rfl rfl rfl rfl ?_
  refine rw_val (v := .bool (decide (((j : Nat) : Int) < 65))) (w' := w_L7) rfl rfl rfl rfl (by simp [go_sem, sEv, sLook, nbeq, i64_w, -List.getD_eq_getElem?_getD]) ?_
  refine rw_end ?_
  refine w_cond rfl rfl (fun cJ => ?_) (fun cJ => ?_)
  · have l10 : (((j : Nat) : Int) < 65) := of_decide_eq_true cJ
    refine w_skip ?_
    refine w_seq ?_
    refine w_block ?_
    refine w_seq ?_
    refine w_region ?_
    refine rw_val (v := .int .i64 ((j : Nat) : Int)) (w' := w_L7) rfl rfl rfl rfl rfl ?_
    refine rw_val (v := .pointer (some ⟨g1, 9, none⟩)) (w' := w_L7) rfl rfl rfl rfl (by simp [go_sem, sEv, sLook, nbeq, i64_w, -List.getD_eq_getElem?_getD, Try.underlying31]) ?_
    refine rw_val (v := .pointer (some ⟨g1, 9 + j, none⟩)) (w' := w_L7) rfl rfl rfl rfl (run_as (addr_hist j (by omega) _)) ?_
    refine rw_val (v := .int .i64 (atF c.h j)) (w' := w_L7) rfl rfl rfl rfl (by have e0_ := (hf9).cellv (cHA c j (by omega)); simp [go_sem, sEv, sLook, nbeq, i64_w, -List.getD_eq_getElem?_getD, e0_]) ?_
    refine rw_val (v := .bool ((atF c.h j) != 0)) (w' := w_L7) rfl rfl rfl rfl (by simp [go_sem, sEv, sLook, nbeq, i64_w, -List.getD_eq_getElem?_getD]) ?_
    refine rw_end ?_
    refine w_weaken (G' := [(1, .pointer (some ⟨g1, 0, none⟩)), (3, .slice A3_ ((flatP (pr c.h j)).length) c3_), (4, .int .i64 ((j : Nat) : Int)), (14, .bool ((atF c.h j) != 0))]) ⟨rfl, rfl, rfl, rfl, trivial⟩ ?_
    refine w_cond rfl rfl (fun cZ => ?_) (fun cZ => ?_)
    · have l11 : ¬ (atF c.h j) = 0 := by simpa using cZ
      refine w_region ?_
      refine rw_val (v := .slice A3_ ((flatP (pr c.h j)).length) c3_) (w' := w_L7) rfl rfl rfl rfl rfl ?_
      refine rw_val (v := .int .i64 ((j : Nat) : Int)) (w' := w_L7) rfl rfl rfl rfl rfl ?_
      refine rw_val (v := .int .i64 ((j : Nat) : Int)) (w' := w_L7) rfl rfl rfl rfl rfl ?_
      refine rw_val (v := .pointer (some ⟨g1, 9, none⟩)) (w' := w_L7) rfl rfl rfl rfl (by simp [go_sem, sEv, sLook, nbeq, i64_w, -List.getD_eq_getElem?_getD, Try.underlying31]) ?_
      refine rw_val (v := .pointer (some ⟨g1, 9 + j, none⟩)) (w' := w_L7) rfl rfl rfl rfl (run_as (addr_hist j (by omega) _)) ?_
      refine rw_val (v := .int .i64 (atF c.h j)) (w' := w_L7) rfl rfl rfl rfl (by have e0_ := (hf9).cellv (cHA c j (by omega)); simp [go_sem, sEv, sLook, nbeq, i64_w, -List.getD_eq_getElem?_getD, e0_]) ?_
      refine rw_new (cs := #[.int .i64 ((j : Nat) : Int), .int .i64 (atF c.h j)]) (t := 3) (fun g => .slice (some ⟨g, 0, none⟩) 2 2) rfl rfl rfl rfl (by kernel_rfl) ?_
      intro g12 w13 hg17 hz16 hb14 hk15
      have hs_w13 := hb14.size
      have hk15r : OwnK (Kd.int .i64) 3 w13 w.heap.size g12 (some ⟨g12, 0, none⟩) 2 2 ([((j : Nat) : Int), (atF c.h j)] : List Int) := scal_own w.heap.size hk15 (by omega) rfl rfl (by simp)
      have oA24 : OwnK (Kd.int .i64) 3 w13 w.heap.size w.heap.size A3_ ((flatP (pr c.h j)).length) c3_ (flatP (pr c.h j)) := (OwnK.on (d := (Kd.int .i64)) hO3_ hb14)
      refine rw_append_kd (d := (Kd.int .i64)) w.heap.size rfl rfl rfl (.tmp 15) (.tmp 21) rfl rfl 38 3 (.int .i64 0) 8 rfl (by kernel_rfl) (by kernel_rfl) rfl (show 0 < 1 by decide) (by decide) (fun _ _ h => h) (b := w.heap.size) rfl rfl (by omega) oA24 (OwnK.Cn (d := (Kd.int .i64)) hk15r) (chain hB_L7 hb14) (by omega) (by first | omega | (have q_ := pr_len c.h j; simp only [List.length_append, List.length_cons, List.length_nil, headC, flatP_len]; omega) | (have q_ := pr_len c.h 65; simp only [List.length_append, List.length_cons, List.length_nil, flatP_len]; omega)) ?_
      intro A18 c19 w20 hO21 hB22 hG23
      have hs_w20 := hB22.size
      have hgs_w20 := hG23.size
      have hk26 := OwnK.blk_grown (hf9.on hb14) oA24 (.inr (by decide)) hG23
      refine rw_val (v := .slice A18 (((flatP (pr c.h j)) ++ ([((j : Nat) : Int), (atF c.h j)] : List Int)).length) c19) (w' := w20) rfl rfl rfl rfl rfl ?_
      refine rw_end ?_
      refine w_weaken (G' := [(1, .pointer (some ⟨g1, 0, none⟩)), (3, .slice A18 (((flatP (pr c.h j)) ++ ([((j : Nat) : Int), (atF c.h j)] : List Int)).length) c19), (4, .int .i64 ((j : Nat) : Int))]) ⟨rfl, rfl, rfl, trivial⟩ ?_
      refine w_blk ?_
      refine w_region ?_
      refine rw_val (v := .int .i64 ((j : Nat) : Int)) (w' := w20) rfl rfl rfl rfl rfl ?_
      refine rw_val (v := .int .i64 ((j + 1 : Nat) : Int)) (w' := w20) rfl rfl rfl rfl (by simp [go_sem, sEv, sLook, nbeq, i64_w, -List.getD_eq_getElem?_getD]; exact wrap_id (by omega) (by omega)) ?_
      refine rw_val (v := .int .i64 ((j + 1 : Nat) : Int)) (w' := w20) rfl rfl rfl rfl rfl ?_
      refine rw_end ?_
      have e27 : ((flatP (pr c.h j)) ++ ([((j : Nat) : Int), (atF c.h j)] : List Int)) = (flatP (pr c.h (j + 1))) := by (first | rw [pr_zero c.h j (by assumption)] | (rw [pr_more c.h j (by assumption), flatP_append]; rfl))
      have hO28 : OwnK (Kd.int .i64) 3 w20 w.heap.size w.heap.size A18 (flatP (pr c.h (j + 1))).length c19 (flatP (pr c.h (j + 1))) := by rw [← e27]; exact OwnK.full hO21
      have en29 : ((flatP (pr c.h j)) ++ ([((j : Nat) : Int), (atF c.h j)] : List Int)).length = (flatP (pr c.h (j + 1))).length := by rw [← e27] <;> exact OwnK.len (d := (Kd.int .i64)) hO21
      exact w_back (m_ - 1) [(1, .pointer (some ⟨g1, 0, none⟩)), (3, .slice A18 ((flatP (pr c.h (j + 1))).length) c19), (4, .int .i64 ((j + 1 : Nat) : Int))] (by omega) ⟨rfl, (by first | rfl | (rw [← en29]; rfl)), rfl, trivial⟩ ⟨(j + 1), A18, c19, by omega, hB22, (OwnK.mono (d := (Kd.int .i64)) hO28 (by omega)), hk26, rfl⟩
    · have l30 : (atF c.h j) = 0 := by simpa using cZ
      refine w_skip ?_
      refine w_blk ?_
      refine w_region ?_
      refine rw_val (v := .int .i64 ((j : Nat) : Int)) (w' := w_L7) rfl rfl rfl rfl rfl ?_
      refine rw_val (v := .int .i64 ((j + 1 : Nat) : Int)) (w' := w_L7) rfl rfl rfl rfl (by simp [go_sem, sEv, sLook, nbeq, i64_w, -List.getD_eq_getElem?_getD]; exact wrap_id (by omega) (by omega)) ?_
      refine rw_val (v := .int .i64 ((j + 1 : Nat) : Int)) (w' := w_L7) rfl rfl rfl rfl rfl ?_
      refine rw_end ?_
      have e31 : (flatP (pr c.h j)) = (flatP (pr c.h (j + 1))) := by (first | rw [pr_zero c.h j (by assumption)] | (rw [pr_more c.h j (by assumption), flatP_append]; rfl))
      have hO32 : OwnK (Kd.int .i64) 3 w_L7 w.heap.size w.heap.size A3_ (flatP (pr c.h (j + 1))).length c3_ (flatP (pr c.h (j + 1))) := by rw [← e31]; exact OwnK.full hO3_
      have en33 : (flatP (pr c.h j)).length = (flatP (pr c.h (j + 1))).length := by rw [← e31] <;> exact OwnK.len (d := (Kd.int .i64)) hO3_
      exact w_back (m_ - 1) [(1, .pointer (some ⟨g1, 0, none⟩)), (3, .slice A3_ ((flatP (pr c.h (j + 1))).length) c3_), (4, .int .i64 ((j + 1 : Nat) : Int))] (by omega) ⟨rfl, (by first | rfl | (rw [← en33]; rfl)), rfl, trivial⟩ ⟨(j + 1), A3_, c3_, by omega, hB_L7, (OwnK.mono (d := (Kd.int .i64)) hO32 (by omega)), hf9, rfl⟩
  · have l34 : ¬ (((j : Nat) : Int) < 65) := of_decide_eq_false cJ
    refine w_exit rfl ?_
    refine w_seq ?_
    refine w_region ?_
    refine rw_val (v := .pointer (some ⟨g1, 0, none⟩)) (w' := w_L7) rfl rfl rfl rfl (by simp [go_sem, sEv, sLook, nbeq, i64_w, -List.getD_eq_getElem?_getD, Try.underlying31]) ?_
    refine rw_val (v := .int .i64 c.cnt) (w' := w_L7) rfl rfl rfl rfl (by have eb_ := hf9; have e0_ := eb_.cellv (v := .int .i64 c.cnt) (cA0 c); simp [go_sem, sEv, sLook, nbeq, i64_w, -List.getD_eq_getElem?_getD, e0_]) ?_
    refine rw_val (v := .pointer (some ⟨g1, 1, none⟩)) (w' := w_L7) rfl rfl rfl rfl (by simp [go_sem, sEv, sLook, nbeq, i64_w, -List.getD_eq_getElem?_getD, Try.underlying31]) ?_
    refine rw_val (v := .pointer (some ⟨g1, 1, none⟩)) (w' := w_L7) rfl rfl rfl rfl (by simp [go_sem, sEv, sLook, nbeq, i64_w, -List.getD_eq_getElem?_getD, Try.underlying26]) ?_
    refine rw_val (v := .int .i64 c.hi) (w' := w_L7) rfl rfl rfl rfl (by have eb_ := hf9; have e0_ := eb_.cellv (v := .int .i64 c.hi) (cA1 c); simp [go_sem, sEv, sLook, nbeq, i64_w, -List.getD_eq_getElem?_getD, e0_]) ?_
    refine rw_val (v := .pointer (some ⟨g1, 1, none⟩)) (w' := w_L7) rfl rfl rfl rfl (by simp [go_sem, sEv, sLook, nbeq, i64_w, -List.getD_eq_getElem?_getD, Try.underlying31]) ?_
    refine rw_val (v := .pointer (some ⟨g1, 2, none⟩)) (w' := w_L7) rfl rfl rfl rfl (by simp [go_sem, sEv, sLook, nbeq, i64_w, -List.getD_eq_getElem?_getD, Try.underlying26]) ?_
    refine rw_val (v := .int .u64 c.lo) (w' := w_L7) rfl rfl rfl rfl (by have eb_ := hf9; have e0_ := eb_.cellv (v := .int .u64 c.lo) (cA2 c); simp [go_sem, sEv, sLook, nbeq, i64_w, -List.getD_eq_getElem?_getD, e0_]) ?_
    refine rw_val (v := .int .i64 (wrap64 (c.lo))) (w' := w_L7) rfl rfl rfl rfl (by simp [go_sem, sEv, sLook, nbeq, i64_w, -List.getD_eq_getElem?_getD, Try.underlying24, Try.underlying3]) ?_
    refine rw_val (v := .pointer (some ⟨g1, 3, none⟩)) (w' := w_L7) rfl rfl rfl rfl (by simp [go_sem, sEv, sLook, nbeq, i64_w, -List.getD_eq_getElem?_getD, Try.underlying31]) ?_
    refine rw_val (v := .int .i64 c.mn) (w' := w_L7) rfl rfl rfl rfl (by have eb_ := hf9; have e0_ := eb_.cellv (v := .int .i64 c.mn) (cA3 c); simp [go_sem, sEv, sLook, nbeq, i64_w, -List.getD_eq_getElem?_getD, e0_]) ?_
    refine rw_val (v := .pointer (some ⟨g1, 4, none⟩)) (w' := w_L7) rfl rfl rfl rfl (by simp [go_sem, sEv, sLook, nbeq, i64_w, -List.getD_eq_getElem?_getD, Try.underlying31]) ?_
    refine rw_val (v := .int .i64 c.mx) (w' := w_L7) rfl rfl rfl rfl (by have eb_ := hf9; have e0_ := eb_.cellv (v := .int .i64 c.mx) (cA4 c); simp [go_sem, sEv, sLook, nbeq, i64_w, -List.getD_eq_getElem?_getD, e0_]) ?_
    refine rw_val (v := .pointer (some ⟨g1, 5, none⟩)) (w' := w_L7) rfl rfl rfl rfl (by simp [go_sem, sEv, sLook, nbeq, i64_w, -List.getD_eq_getElem?_getD, Try.underlying31]) ?_
    refine rw_val (v := .pointer (some ⟨g1, 5, none⟩)) (w' := w_L7) rfl rfl rfl rfl (by simp [go_sem, sEv, sLook, nbeq, i64_w, -List.getD_eq_getElem?_getD, Try.underlying28]) ?_
    refine rw_val (v := .int .i64 c.t) (w' := w_L7) rfl rfl rfl rfl (by have eb_ := hf9; have e0_ := eb_.cellv (v := .int .i64 c.t) (cA5 c); simp [go_sem, sEv, sLook, nbeq, i64_w, -List.getD_eq_getElem?_getD, e0_]) ?_
    refine rw_val (v := .pointer (some ⟨g1, 5, none⟩)) (w' := w_L7) rfl rfl rfl rfl (by simp [go_sem, sEv, sLook, nbeq, i64_w, -List.getD_eq_getElem?_getD, Try.underlying31]) ?_
    refine rw_val (v := .pointer (some ⟨g1, 6, none⟩)) (w' := w_L7) rfl rfl rfl rfl (by simp [go_sem, sEv, sLook, nbeq, i64_w, -List.getD_eq_getElem?_getD, Try.underlying28]) ?_
    refine rw_val (v := .int .i64 c.src) (w' := w_L7) rfl rfl rfl rfl (by have eb_ := hf9; have e0_ := eb_.cellv (v := .int .i64 c.src) (cA6 c); simp [go_sem, sEv, sLook, nbeq, i64_w, -List.getD_eq_getElem?_getD, e0_]) ?_
    refine rw_val (v := .pointer (some ⟨g1, 5, none⟩)) (w' := w_L7) rfl rfl rfl rfl (by simp [go_sem, sEv, sLook, nbeq, i64_w, -List.getD_eq_getElem?_getD, Try.underlying31]) ?_
    refine rw_val (v := .pointer (some ⟨g1, 7, none⟩)) (w' := w_L7) rfl rfl rfl rfl (by simp [go_sem, sEv, sLook, nbeq, i64_w, -List.getD_eq_getElem?_getD, Try.underlying28]) ?_
    refine rw_val (v := .int .i64 c.seq) (w' := w_L7) rfl rfl rfl rfl (by have eb_ := hf9; have e0_ := eb_.cellv (v := .int .i64 c.seq) (cA7 c); simp [go_sem, sEv, sLook, nbeq, i64_w, -List.getD_eq_getElem?_getD, e0_]) ?_
    refine rw_val (v := .pointer (some ⟨g1, 5, none⟩)) (w' := w_L7) rfl rfl rfl rfl (by simp [go_sem, sEv, sLook, nbeq, i64_w, -List.getD_eq_getElem?_getD, Try.underlying31]) ?_
    refine rw_val (v := .pointer (some ⟨g1, 8, none⟩)) (w' := w_L7) rfl rfl rfl rfl (by simp [go_sem, sEv, sLook, nbeq, i64_w, -List.getD_eq_getElem?_getD, Try.underlying28]) ?_
    refine rw_val (v := .int .i64 c.v) (w' := w_L7) rfl rfl rfl rfl (by have eb_ := hf9; have e0_ := eb_.cellv (v := .int .i64 c.v) (cA8 c); simp [go_sem, sEv, sLook, nbeq, i64_w, -List.getD_eq_getElem?_getD, e0_]) ?_
    have ej_ : j = 65 := by omega
    refine rw_val (v := .slice A3_ ((flatP (pr c.h j)).length) c3_) (w' := w_L7) rfl rfl rfl rfl rfl ?_
    refine rw_val (v := .int .i64 (((flatP (pr c.h j)).length : Nat) : Int)) (w' := w_L7) rfl rfl rfl rfl (by simp [go_sem, sEv, sLook, nbeq, i64_w, -List.getD_eq_getElem?_getD]) ?_
    refine rw_val (v := .int .i64 (((pr c.h j).length : Nat) : Int)) (w' := w_L7) rfl rfl rfl rfl (by exact run_int (a := wrap64 (((flatP (pr c.h j)).length : Int) / 2)) (by simp [go_sem, sEv, sLook, nbeq, i64_w, -List.getD_eq_getElem?_getD]) (by have q_ := pr_len c.h j; rw [flatP_len]; unfold wrap64; omega)) ?_
    refine rw_new (cs := #[.int .i64 c.cnt, .int .i64 c.hi, .int .i64 (wrap64 (c.lo)), .int .i64 c.mn, .int .i64 c.mx, .int .i64 c.t, .int .i64 c.src, .int .i64 c.seq, .int .i64 c.v, .int .i64 (((pr c.h j).length : Nat) : Int)]) (t := 3) (fun g => .slice (some ⟨g, 0, none⟩) 10 10) rfl rfl rfl rfl (by kernel_rfl) ?_
    intro g35 w36 hg40 hz39 hb37 hk38
    have hs_w36 := hb37.size
    have hk38r : OwnK (Kd.int .i64) 3 w36 w.heap.size g35 (some ⟨g35, 0, none⟩) 10 10 ([c.cnt, c.hi, wrap64 (c.lo), c.mn, c.mx, c.t, c.src, c.seq, c.v, (((pr c.h j).length : Nat) : Int)] : List Int) := scal_own w.heap.size hk38 (by omega) rfl rfl (by simp)
    refine rw_val (v := .slice (some ⟨g35, 0, none⟩) 10 10) (w' := w36) rfl rfl rfl rfl rfl ?_
    refine rw_end ?_
    refine w_weaken (G' := [(3, .slice A3_ ((flatP (pr c.h j)).length) c3_), (5, .slice (some ⟨g35, 0, none⟩) 10 10)]) ⟨rfl, rfl, trivial⟩ ?_
    refine w_seq ?_
    refine w_region ?_
    refine rw_val (v := .slice (some ⟨g35, 0, none⟩) 10 10) (w' := w36) rfl rfl rfl rfl rfl ?_
    refine rw_val (v := .slice A3_ ((flatP (pr c.h j)).length) c3_) (w' := w36) rfl rfl rfl rfl rfl ?_
    have oA47 : OwnK (Kd.int .i64) 3 w36 w.heap.size g35 (some ⟨g35, 0, none⟩) 10 10 ([c.cnt, c.hi, wrap64 (c.lo), c.mn, c.mx, c.t, c.src, c.seq, c.v, (((pr c.h j).length : Nat) : Int)] : List Int) := hk38r
    refine rw_append_kd (d := (Kd.int .i64)) w.heap.size rfl rfl rfl (.tmp 52) (.tmp 53) rfl rfl 38 3 (.int .i64 0) 8 rfl (by kernel_rfl) (by kernel_rfl) rfl (show 0 < 1 by decide) (by decide) (fun _ _ h => h) (b := g35) rfl rfl (by omega) oA47 (OwnK.Cn (d := (Kd.int .i64)) (OwnK.on (d := (Kd.int .i64)) hO3_ hb37)) (chain hB_L7 hb37) (by omega) (by first | omega | (have q_ := pr_len c.h j; simp only [List.length_append, List.length_cons, List.length_nil, headC, flatP_len]; omega) | (have q_ := pr_len c.h 65; simp only [List.length_append, List.length_cons, List.length_nil, flatP_len]; omega)) ?_
    intro A41 c42 w43 hO44 hB45 hG46
    have hs_w43 := hB45.size
    have hgs_w43 := hG46.size
    have hO48 := OwnK.elder (d := (Kd.int .i64)) hO3_ hb37 hG46 (fun q hq => Nat.le_trans (by omega) (OwnK.blk_ge (d := (Kd.int .i64)) oA47 hq))
    have hk49 := OwnK.blk_grown (hf9.on hb37) oA47 (.inr (by decide)) hG46
    refine rw_val (v := .slice A41 ((([c.cnt, c.hi, wrap64 (c.lo), c.mn, c.mx, c.t, c.src, c.seq, c.v, (((pr c.h j).length : Nat) : Int)] : List Int) ++ (flatP (pr c.h j))).length) c42) (w' := w43) rfl rfl rfl rfl rfl ?_
    refine rw_end ?_
    refine w_weaken (G' := [(2, .slice A41 ((([c.cnt, c.hi, wrap64 (c.lo), c.mn, c.mx, c.t, c.src, c.seq, c.v, (((pr c.h j).length : Nat) : Int)] : List Int) ++ (flatP (pr c.h j))).length) c42)]) ⟨rfl, trivial⟩ ?_
    refine w_ret (post_ret1 rfl rfl ?_)
    have eX_ : (([c.cnt, c.hi, wrap64 (c.lo), c.mn, c.mx, c.t, c.src, c.seq, c.v, (((pr c.h j).length : Nat) : Int)] : List Int) ++ (flatP (pr c.h j))) = numsC c := (by rw [ej_]; rfl)
    have hf_ := hO44
    rw [eX_] at hf_
    rw [eX_]
    exact ⟨_, _, rfl, OwnK.mono (d := (Kd.int .i64)) hf_ (by omega), hB45⟩

theorem C_none {α : Type} {d : Kd α} {w : World} {A : Option Addr} {n : Nat} {xs : List α} (h : d.C w A n xs) (hn : A.isNone = true) : xs = [] := by
  cases xs with
  | nil => rfl
  | cons x xs =>
    have h1 : n = (x :: xs).length := h.1.symm
    obtain ⟨ad, h2, _⟩ := h.2.2 (by rw [h1]; simp)
    rw [h2] at hn
    cases hn
set_option maxHeartbeats 4000000 in
theorem clonei_calls (w : World) (A1 : Option Addr) (c1 : Nat) (l : List Int) (hl : (Kd.int .i64).C w A1 l.length l) (hc : l.length ≤ c1) (hln : l.length ≤ 100000) :
    Calls Try.prog 31 #[.slice A1 l.length c1] w fun e w' => ∃ A' c', e = .returned (.slice A' l.length c') ∧ OwnK (Kd.int .i64) 3 w' w.heap.size w.heap.size A' l.length c' l ∧ Below w.heap.size w w' := by
  refine calls_flow Try.func31 rfl 8 rfl (Nat.le_of_ble_eq_true rfl) [(0, .slice A1 l.length c1)] ?_ ?_
  · intro t v h; exact args_look rfl t v h
  refine w_seq ?_
  refine w_region ?_
  refine rw_val (v := .slice none 0 0) (w' := w) rfl rfl rfl rfl rfl ?_
  refine rw_end ?_
  refine w_seq ?_
  refine w_seq ?_
  refine w_region ?_
  refine rw_val (v := .slice A1 l.length c1) (w' := w) rfl rfl rfl rfl rfl ?_
  refine rw_val (v := .bool A1.isNone) (w' := w) rfl rfl rfl rfl (run_as (run_nil_eql (P := Try.prog) (e := 3) (by kernel_rfl) _ _ _ _)) ?_
  refine rw_end ?_
  refine w_cond rfl rfl (fun cN => ?_) (fun cN => ?_)
  · refine w_seq ?_
    refine w_region ?_
    refine rw_val (v := .slice none 0 0) (w' := w) rfl rfl rfl rfl rfl ?_
    refine rw_end ?_
    refine w_ret (post_ret1 rfl rfl ?_)
    obtain rfl : l = [] := C_none (d := (Kd.int .i64)) hl cN
    exact ⟨_, _, rfl, OwnK.nil _ _ _ _ _, (Below.refl _ _)⟩
  · refine w_skip ?_
    refine w_seq ?_
    refine w_region ?_
    refine rw_new (cs := #[]) (t := 3) (fun g => .slice (some ⟨g, 0, none⟩) 0 0) rfl rfl rfl rfl (by kernel_rfl) ?_
    intro g1 w2 hg6 hz5 hb3 hk4
    have hs_w2 := hb3.size
    have hk4r : OwnK (Kd.int .i64) 3 w2 w.heap.size g1 (some ⟨g1, 0, none⟩) 0 0 ([] : List Int) := lit_nilK _ w.heap.size hk4 (by omega)
    refine rw_val (v := .slice A1 l.length c1) (w' := w2) rfl rfl rfl rfl rfl ?_
    have oA13 : OwnK (Kd.int .i64) 3 w2 w.heap.size g1 (some ⟨g1, 0, none⟩) 0 0 ([] : List Int) := hk4r
    refine rw_append_kd (d := (Kd.int .i64)) w.heap.size rfl rfl rfl (.tmp 5) (.tmp 6) rfl rfl 38 3 (.int .i64 0) 8 rfl (by kernel_rfl) (by kernel_rfl) rfl (show 0 < 1 by decide) (by decide) (fun _ _ h => h) (b := g1) rfl rfl (by omega) oA13 (Kd.C_below hl hb3) hb3 (by omega) (by simp; omega) ?_
    intro A7 c8 w9 hO10 hB11 hG12
    rw [List.nil_append] at hO10
    try rw [List.nil_append]
    have hs_w9 := hB11.size
    have hgs_w9 := hG12.size
    refine rw_val (v := .slice A7 l.length c8) (w' := w9) rfl rfl rfl rfl rfl ?_
    refine rw_end ?_
    refine w_weaken (G' := [(2, .slice A7 l.length c8)]) ⟨rfl, trivial⟩ ?_
    refine w_ret (post_ret1 rfl rfl ?_)
    exact ⟨_, _, rfl, OwnK.mono (d := (Kd.int .i64)) hO10 (by omega), hB11⟩
set_option maxHeartbeats 4000000 in
theorem ints_calls (w : World) (A1 : Option Addr) (c1 : Nat) (A2 : Option Addr) (c2 : Nat) (l : List Int) (h1 : (Kd.int .i64).C w A1 l.length l) (hc1 : l.length ≤ c1) (h2 : (Kd.int .i64).C w A2 l.length l) (hc2 : l.length ≤ c2) (hln : l.length ≤ 100000) :
    Calls Try.prog 18 #[.slice A1 l.length c1, .slice A2 l.length c2] w fun e w' => e = .returned (.bool true) ∧ Below w.heap.size w w' := by
  refine calls_flow Try.func18 rfl 26 rfl (Nat.le_of_ble_eq_true rfl) [(0, .slice A1 l.length c1), (1, .slice A2 l.length c2)] ?_ ?_
  · intro t v h; exact args_look rfl t v h
  refine w_seq ?_
  refine w_region ?_
  refine rw_val (v := .bool false) (w' := w) rfl rfl rfl rfl rfl ?_
  refine rw_end ?_
  refine w_seq ?_
  refine w_seq ?_
  refine w_region ?_
  refine rw_val (v := .slice A1 l.length c1) (w' := w) rfl rfl rfl rfl rfl ?_
  refine rw_val (v := .int .i64 ((l.length : Nat) : Int)) (w' := w) rfl rfl rfl rfl (by simp [go_sem, sEv, sLook, nbeq, i64_w, -List.getD_eq_getElem?_getD]) ?_
  refine rw_val (v := .slice A2 l.length c2) (w' := w) rfl rfl rfl rfl rfl ?_
  refine rw_val (v := .int .i64 ((l.length : Nat) : Int)) (w' := w) rfl rfl rfl rfl (by simp [go_sem, sEv, sLook, nbeq, i64_w, -List.getD_eq_getElem?_getD]) ?_
  refine rw_val (v := .bool false) (w' := w) rfl rfl rfl rfl (by simp [go_sem, sEv, sLook, nbeq, i64_w, -List.getD_eq_getElem?_getD]) ?_
  refine rw_end ?_
  refine w_weaken (G' := [(0, .slice A1 l.length c1), (1, .slice A2 l.length c2), (4, .bool false), (10, .bool false)]) ⟨rfl, rfl, rfl, rfl, trivial⟩ ?_
  refine w_cond_f rfl rfl rfl ?_
  refine w_skip ?_
  refine w_seq ?_
  refine w_seq ?_
  refine w_region ?_
  refine rw_val (v := .slice A1 l.length c1) (w' := w) rfl rfl rfl rfl rfl ?_
  refine rw_val (v := .int .i64 ((l.length : Nat) : Int)) (w' := w) rfl rfl rfl rfl (by simp [go_sem, sEv, sLook, nbeq, i64_w, -List.getD_eq_getElem?_getD]) ?_
  refine rw_val (v := .int .i64 0) (w' := w) rfl rfl rfl rfl rfl ?_
  refine rw_end ?_
  refine w_block ?_
  refine w_loop (fun m_ G W_ => ∃ (j : Nat), j + m_ = l.length ∧ Below w.heap.size w W_ ∧ G = [(0, .slice A1 l.length c1), (1, .slice A2 l.length c2), (12, .int .i64 ((l.length : Nat) : Int)), (13, .int .i64 ((j : Nat) : Int))]) l.length [(0, .slice A1 l.length c1), (1, .slice A2 l.length c2), (12, .int .i64 ((l.length : Nat) : Int)), (13, .int .i64 0)] ⟨0, by omega, (Below.refl _ _), rfl⟩ ⟨rfl, rfl, rfl, rfl, trivial⟩ ?_
  rintro m_ G w_L1 ⟨j, hp2, hB_L1, rfl⟩
  have hs_w_L1 := hB_L1.size
  refine w_seq ?_
  refine w_region ?_
  refine rw_val (v := .bool (decide (((j : Nat) : Int) < ((l.length : Nat) : Int)))) (w' := w_L1) rfl rfl rfl rfl (by simp [go_sem, sEv, sLook, nbeq, i64_w, -List.getD_eq_getElem?_getD]) ?_
  refine rw_end ?_
  refine w_seq ?_
  refine w_cond rfl rfl (fun cJ => ?_) (fun cJ => ?_)
  · have l3 : (((j : Nat) : Int) < ((l.length : Nat) : Int)) := of_decide_eq_true cJ
    refine w_skip ?_
    refine w_seq ?_
    refine w_block ?_
    refine w_seq ?_
    refine w_region ?_
    refine rw_val (v := .int .i64 ((j : Nat) : Int)) (w' := w_L1) rfl rfl rfl rfl rfl ?_
    refine rw_val (v := .int .i64 ((j : Nat) : Int)) (w' := w_L1) rfl rfl rfl rfl rfl ?_
    refine rw_end ?_
    refine w_seq ?_
    obtain ⟨ad4, hA5, hc6⟩ := int_at (Kd.C_below h1 hB_L1) 0 j (by first | omega | decide)
    subst hA5
    have he7 : w_L1.cell? (ad4.add (j)) = some (.int .i64 (l.getD j 0)) := cell_0 (hc6 0 _ rfl)
    obtain ⟨ad8, hA9, hc10⟩ := int_at (Kd.C_below h2 hB_L1) 0 j (by first | omega | decide)
    subst hA9
    have he11 : w_L1.cell? (ad8.add (j)) = some (.int .i64 (l.getD j 0)) := cell_0 (hc10 0 _ rfl)
    refine w_drawk (M := [0, 0, 3, 7, 0, 0, 48, 112, 255]) (ss := [Is (.slice (some ad4) l.length c1), Is (.int .i64 ((j : Nat) : Int)), Is (.pointer (some (ad4.add (j)))), Is (.int .i64 (l.getD j 0)), Is (.slice (some ad8) l.length c2), Is (.int .i64 ((j : Nat) : Int)), Is (.pointer (some (ad8.add (j)))), Is (.int .i64 (l.getD j 0))]) 8 rfl (by decide +kernel) ?_
    refine t_is (.slice (some ad4) l.length c1) rfl rfl rfl rfl (fun W_ hW_ F_ => rfl) ?_
    refine t_is (.int .i64 ((j : Nat) : Int)) rfl rfl rfl rfl (fun W_ hW_ F_ => rfl) ?_
    refine t_is (.pointer (some (ad4.add (j)))) rfl rfl rfl rfl (fun W_ hW_ F_ => (run_as (run_at_1 (P := Try.prog) (e := 3) (by kernel_rfl) (by kernel_rfl) j (by first | omega | decide) _))) ?_
    refine t_is (.int .i64 (l.getD j 0)) rfl rfl rfl rfl (fun W_ hW_ F_ => by have e0_ := cellOn he7 (below_of_drew hW_); simp [go_sem, sEv, sLook, nbeq, i64_w, -List.getD_eq_getElem?_getD, e0_]) ?_
    refine t_is (.slice (some ad8) l.length c2) rfl rfl rfl rfl (fun W_ hW_ F_ => rfl) ?_
    refine t_is (.int .i64 ((j : Nat) : Int)) rfl rfl rfl rfl (fun W_ hW_ F_ => rfl) ?_
    refine t_is (.pointer (some (ad8.add (j)))) rfl rfl rfl rfl (fun W_ hW_ F_ => (run_as (run_at_1 (P := Try.prog) (e := 3) (by kernel_rfl) (by kernel_rfl) j (by first | omega | decide) _))) ?_
    refine t_is (.int .i64 (l.getD j 0)) rfl rfl rfl rfl (fun W_ hW_ F_ => by have e0_ := cellOn he11 (below_of_drew hW_); simp [go_sem, sEv, sLook, nbeq, i64_w, -List.getD_eq_getElem?_getD, e0_]) ?_
    refine t_tail ?_
    intro w12 hb13_ F14
    have hb13 := below_of_drew hb13_
    have hs_w12 := hb13.size
    refine rw_val (v := .bool false) (w' := w12) rfl rfl rfl rfl (by simp [go_sem, sEv, sLook, nbeq, i64_w, -List.getD_eq_getElem?_getD]) ?_
    refine rw_end ?_
    refine w_weaken (G' := [(0, .slice (some ad4) l.length c1), (1, .slice (some ad8) l.length c2), (12, .int .i64 ((l.length : Nat) : Int)), (13, .int .i64 ((j : Nat) : Int)), (24, .bool false)]) ⟨rfl, rfl, rfl, rfl, rfl, trivial⟩ ?_
    refine w_cond_f rfl rfl rfl ?_
    refine w_skip ?_
    refine w_blk ?_
    refine w_region ?_
    refine rw_val (v := .int .i64 ((j + 1 : Nat) : Int)) (w' := w12) rfl rfl rfl rfl (by simp [go_sem, sEv, sLook, nbeq, i64_w, -List.getD_eq_getElem?_getD]; exact wrap_id (by omega) (by omega)) ?_
    refine rw_val (v := .int .i64 ((j + 1 : Nat) : Int)) (w' := w12) rfl rfl rfl rfl rfl ?_
    refine rw_end ?_
    exact w_back (m_ - 1) [(0, .slice (some ad4) l.length c1), (1, .slice (some ad8) l.length c2), (12, .int .i64 ((l.length : Nat) : Int)), (13, .int .i64 ((j + 1 : Nat) : Int))] (by omega) ⟨rfl, rfl, rfl, rfl, trivial⟩ ⟨(j + 1), by omega, (chain hB_L1 hb13), rfl⟩
  · have l15 : ¬ (((j : Nat) : Int) < ((l.length : Nat) : Int)) := of_decide_eq_false cJ
    refine w_exit rfl ?_
    refine w_seq ?_
    refine w_region ?_
    refine rw_val (v := .bool true) (w' := w_L1) rfl rfl rfl rfl rfl ?_
    refine rw_end ?_
    refine w_ret (post_ret1 rfl rfl ?_)
    exact ⟨rfl, hB_L1⟩
end Go.Proofs.Ytheaipbnbnjlgaa.Ce
