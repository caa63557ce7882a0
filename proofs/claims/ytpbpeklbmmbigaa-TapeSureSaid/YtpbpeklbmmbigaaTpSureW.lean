/- What was sure is there behind every crash: the walk. -/
import Derived.Test.YtpbpeklbmmbigaaTpSure
namespace Go.Proofs.Ytpbpeklbmmbigaa.Tp
open Go.RowKit Go.Proofs.YtpbpeklbmmbigaaW.PrintWords Go.Proofs.YtpbpeklbmmbigaaW.PrintLast Go.Proofs.YtpbpeklbmmbigaaW.PrintMore
open Go.Proofs.Ytpbpeklbmmbigaa.Flow
set_option linter.unusedVariables false
set_option linter.unusedSimpArgs false

set_option maxHeartbeats 4000000 in
theorem sure_nat (w : World) (P0 : Option Addr) (ps : List (List Int)) (pc : Nat) (hP : (Kd.slice 5 (Kd.int .u8)).C w P0 ps.length ps) (ks keep : Int) (k : Nat) (hk_ : ps.length ≤ 100 → Int.tmod (IntKind.u64.wrap ks) ((ps.length : Int) + 1) = (k : Int)) (hkl : ps.length ≤ 100 → k ≤ ps.length) :
    Calls Try.prog 3 #[.slice P0 ps.length pc, .int .i64 ks, .int .i64 keep] w fun e w' => e = .returned (.bool true) ∧ Below w.heap.size w w' := by
  refine calls_flow Try.func3 rfl 103 rfl (Nat.le_of_ble_eq_true rfl) [(0, .slice P0 ps.length pc), (1, .int .i64 ks), (2, .int .i64 keep)] ?_ ?_
  · intro t v h; exact args_look rfl t v h
  refine w_seq ?_
  refine w_region ?_
  refine rw_val (v := .bool false) (w' := w) rfl rfl rfl rfl rfl ?_
  refine rw_end ?_
  refine w_seq ?_
  refine w_seq ?_
  refine w_region ?_
  refine rw_call rfl rfl rfl rfl (f := 10) (args := #[]) (by simp [go_sem, sEv, sLook, nbeq, i64_w, -List.length_flatten]) (alive_calls w) ?_
  rintro e_ w1 ⟨rfl, hb2⟩
  refine ⟨_, rfl, ?_⟩
  have hs_w1 := hb2.size
  refine rw_val (v := .bool false) (w' := w1) rfl rfl rfl rfl (by simp [go_sem, sEv, sLook, nbeq, i64_w, -List.length_flatten]) ?_
  refine rw_end ?_
  refine w_cond_f rfl rfl rfl ?_
  refine w_skip ?_
  refine w_seq ?_
  refine w_seq ?_
  refine w_region ?_
  refine rw_val (v := .slice P0 ps.length pc) (w' := w1) rfl rfl rfl rfl rfl ?_
  refine rw_val (v := .int .i64 (ps.length : Int)) (w' := w1) rfl rfl rfl rfl (by simp [go_sem, sEv, sLook, nbeq, i64_w, -List.length_flatten]) ?_
  refine rw_val (v := .bool (decide (100 < (ps.length : Int)))) (w' := w1) rfl rfl rfl rfl (by simp [go_sem, sEv, sLook, nbeq, i64_w, -List.length_flatten]) ?_
  refine rw_end ?_
  refine w_cond rfl rfl (fun cN => ?_) (fun cN => ?_)
  · refine w_seq ?_
    refine w_region ?_
    refine rw_val (v := .bool true) (w' := w1) rfl rfl rfl rfl rfl ?_
    refine rw_end ?_
    refine w_ret (post_ret1 rfl rfl ?_)
    exact ⟨rfl, hb2⟩
  · refine w_skip ?_
    refine w_seq ?_
    refine w_region ?_
    refine rw_call rfl rfl rfl rfl (f := 11) (args := #[]) (by simp [go_sem, sEv, sLook, nbeq, i64_w, -List.length_flatten]) (new_T w1) ?_
    rintro e_ w4 ⟨g3, rfl, hT5_, hs6⟩
    refine ⟨_, rfl, ?_⟩
    have hT5 : TapeAt w w4 g3 w4.heap.size (pl [] 0 0) := new_on hb2 hT5_
    have hs_w4 := hT5.1.size
    refine rw_val (v := .pointer (some ⟨g3, 0, none⟩)) (w' := w4) rfl rfl rfl rfl rfl ?_
    refine rw_end ?_
    refine w_seq ?_
    refine w_region ?_
    refine rw_val (v := .string (⟨#[]⟩ : ByteArray)) (w' := w4) rfl rfl rfl rfl rfl ?_
    refine rw_val (v := .string (⟨#[]⟩ : ByteArray)) (w' := w4) rfl rfl rfl rfl rfl ?_
    refine rw_end ?_
    refine w_seq ?_
    refine w_region ?_
    refine rw_val (v := .int .i64 ks) (w' := w4) rfl rfl rfl rfl rfl ?_
    refine rw_val (v := .int .u64 (IntKind.u64.wrap (ks))) (w' := w4) rfl rfl rfl rfl (by simp [go_sem, sEv, sLook, nbeq, i64_w, -List.length_flatten, Try.underlying3, Try.underlying26]) ?_
    refine rw_val (v := .slice P0 ps.length pc) (w' := w4) rfl rfl rfl rfl rfl ?_
    refine rw_val (v := .int .i64 (ps.length : Int)) (w' := w4) rfl rfl rfl rfl (by simp [go_sem, sEv, sLook, nbeq, i64_w, -List.length_flatten]) ?_
    refine rw_val (v := .int .i64 ((ps.length + 1 : Nat) : Int)) (w' := w4) rfl rfl rfl rfl (by simp [go_sem, sEv, sLook, nbeq, i64_w, -List.length_flatten]; have hn_ := of_decide_eq_false cN; exact wrap_id (by omega) (by omega)) ?_
    refine rw_val (v := .int .u64 ((ps.length + 1 : Nat) : Int)) (w' := w4) rfl rfl rfl rfl (by simp [go_sem, sEv, sLook, nbeq, i64_w, -List.length_flatten]; have hn_ := of_decide_eq_false cN; rw [u64_wrap]; omega) ?_
    refine rw_val (v := .int .u64 (k : Int)) (w' := w4) rfl rfl rfl rfl (by simp [go_sem, sEv, sLook, nbeq, i64_w, -List.length_flatten]; have hn_ := of_decide_eq_false cN; rw [if_neg (by omega), hk_ (by omega)]) ?_
    refine rw_val (v := .int .i64 (k : Int)) (w' := w4) rfl rfl rfl rfl (by simp [go_sem, sEv, sLook, nbeq, i64_w, -List.length_flatten]; have hn_ := of_decide_eq_false cN; exact wrap_id (by omega) (by omega)) ?_
    refine rw_val (v := .int .i64 (k : Int)) (w' := w4) rfl rfl rfl rfl rfl ?_
    refine rw_end ?_
    refine w_weaken (G' := [(0, .slice P0 ps.length pc), (2, .int .i64 keep), (6, .bool false), (7, .pointer (some ⟨g3, 0, none⟩)), (8, .string (⟨#[]⟩ : ByteArray)), (9, .string (⟨#[]⟩ : ByteArray)), (10, .int .i64 (k : Int))]) ⟨rfl, rfl, rfl, rfl, rfl, rfl, rfl, trivial⟩ ?_
    refine w_seq ?_
    refine w_seq ?_
    refine w_region ?_
    refine rw_val (v := .slice P0 ps.length pc) (w' := w4) rfl rfl rfl rfl rfl ?_
    refine rw_val (v := .int .i64 (ps.length : Int)) (w' := w4) rfl rfl rfl rfl (by simp [go_sem, sEv, sLook, nbeq, i64_w, -List.length_flatten]) ?_
    refine rw_val (v := .int .i64 0) (w' := w4) rfl rfl rfl rfl rfl ?_
    refine rw_end ?_
    refine w_block ?_
    have hn_ := of_decide_eq_false cN
    refine w_loop (fun m_ G W_ => ∃ (i m : Nat) (stp : Int), i + m_ = ps.length ∧ 0 ≤ stp ∧ stp ≤ 2 * (i : Int) ∧ (ps.take i).flatten.length ≤ 5000 * i ∧ TapeAt w W_ g3 m (pl (ps.take i).flatten ((ps.take (min i k)).flatten.length : Int) stp) ∧ G = [(2, .int .i64 keep), (6, .bool false), (7, .pointer (some ⟨g3, 0, none⟩)), (8, .string (strOfNums (ps.take (min i k)).flatten)), (9, .string (strOfNums (ps.take i).flatten)), (10, .int .i64 (k : Int)), (29, .slice P0 ps.length pc), (30, .int .i64 (ps.length : Int)), (31, .int .i64 (i : Int))]) ps.length [(2, .int .i64 keep), (6, .bool false), (7, .pointer (some ⟨g3, 0, none⟩)), (8, .string ⟨#[]⟩), (9, .string ⟨#[]⟩), (10, .int .i64 (k : Int)), (29, .slice P0 ps.length pc), (30, .int .i64 (ps.length : Int)), (31, .int .i64 0)] ⟨0, _, 0, by omega, by omega, by omega, by simp, by simpa using hT5, by simp; rfl⟩ ⟨rfl, rfl, rfl, rfl, rfl, rfl, rfl, rfl, rfl, trivial⟩ ?_
    rintro m_ G w_ ⟨i, mm, stp, him, hst1, hst2, hfl_, hT_, rfl⟩
    have hs_w_ := hT_.1.size
    have hg_w_ := hT_.2.2.1.2
    have hfl2_ := flat_le ps i k
    refine w_seq ?_
    refine w_region ?_
    refine rw_val (v := .bool (decide ((i : Int) < (ps.length : Int)))) (w' := w_) rfl rfl rfl rfl (by simp [go_sem, sEv, sLook, nbeq, i64_w, -List.length_flatten]) ?_
    refine rw_end ?_
    refine w_seq ?_
    refine w_cond rfl rfl (fun cL => ?_) (fun cL => ?_)
    · refine w_skip ?_
      refine w_seq ?_
      refine w_block ?_
      refine w_seq ?_
      refine w_region ?_
      refine rw_val (v := .int .i64 (i : Int)) (w' := w_) rfl rfl rfl rfl rfl ?_
      have l_ := of_decide_eq_true cL
      obtain ⟨ad, A1, c1, hA_, hcell_, hle_, hC_⟩ := at_L2 hP (i : Int) (by omega) (by omega)
      subst hA_
      rw [show ((i : Int)).toNat = i by omega] at hcell_
      have htl_ := take_len ps i (by omega)
      have htf_ := take_flat ps i (by omega)
      refine rw_val (v := .pointer (some (ad.add i))) (w' := w_) rfl rfl rfl rfl (by simp [go_sem, sEv, sLook, nbeq, i64_w, -List.length_flatten, Try.underlying22]; omega) ?_
      have hcell2_ := cellOn hcell_ hT_.1
      refine rw_val (v := .slice A1 ((rd_L2 ps (i : Int)).length) c1) (w' := w_) rfl rfl rfl rfl (by simp [go_sem, sEv, sLook, nbeq, i64_w, -List.length_flatten, hcell2_]) ?_
      refine rw_val (v := .int .i64 (i : Int)) (w' := w_) rfl rfl rfl rfl rfl ?_
      refine rw_val (v := .slice A1 ((rd_L2 ps (i : Int)).length) c1) (w' := w_) rfl rfl rfl rfl rfl ?_
      refine rw_end ?_
      refine w_weaken (G' := [(2, .int .i64 keep), (6, .bool false), (7, .pointer (some ⟨g3, 0, none⟩)), (8, .string (strOfNums (ps.take (min i k)).flatten)), (9, .string (strOfNums (ps.take i).flatten)), (10, .int .i64 (k : Int)), (11, .int .i64 (i : Int)), (12, .slice A1 ((rd_L2 ps (i : Int)).length) c1), (29, .slice (some ad) ps.length pc), (30, .int .i64 (ps.length : Int)), (31, .int .i64 (i : Int))]) ⟨rfl, rfl, rfl, rfl, rfl, rfl, rfl, rfl, rfl, rfl, rfl, trivial⟩ ?_
      refine w_seq ?_
      refine w_seq ?_
      refine w_region ?_
      refine rw_val (v := .slice A1 ((rd_L2 ps (i : Int)).length) c1) (w' := w_) rfl rfl rfl rfl rfl ?_
      refine rw_val (v := .int .i64 ((rd_L2 ps (i : Int)).length : Int)) (w' := w_) rfl rfl rfl rfl (by simp [go_sem, sEv, sLook, nbeq, i64_w, -List.length_flatten]) ?_
      refine rw_val (v := .bool (decide (5000 < ((rd_L2 ps (i : Int)).length : Int)))) (w' := w_) rfl rfl rfl rfl (by simp [go_sem, sEv, sLook, nbeq, i64_w, -List.length_flatten]) ?_
      refine rw_val (v := .bool (decide (5000 < ((rd_L2 ps (i : Int)).length : Int)))) (w' := w_) rfl rfl rfl rfl rfl ?_
      rcases bcase (decide (5000 < ((rd_L2 ps (i : Int)).length : Int))) with cR | cR
      · refine rw_on (c := decide (5000 < ((rd_L2 ps (i : Int)).length : Int))) rfl rfl rfl (by first | (rw [cR]; rfl) | simp [cR]) ?_
        refine rw_val (v := .pointer (some ⟨g3, 0, none⟩)) (w' := w_) rfl rfl rfl rfl rfl ?_
        refine rw_on (c := decide (5000 < ((rd_L2 ps (i : Int)).length : Int))) rfl rfl rfl (by first | (rw [cR]; rfl) | simp [cR]) ?_
        refine rw_val (v := .slice A1 ((rd_L2 ps (i : Int)).length) c1) (w' := w_) rfl rfl rfl rfl rfl ?_
        refine rw_on (c := decide (5000 < ((rd_L2 ps (i : Int)).length : Int))) rfl rfl rfl (by first | (rw [cR]; rfl) | simp [cR]) ?_
        refine rw_new (cs := #[.slice A1 ((rd_L2 ps (i : Int)).length) c1]) (t := 27) (fun g => .slice (some ⟨g, 0, none⟩) 1 1) rfl rfl rfl rfl (by kernel_rfl) ?_
        intro g7 w8 hg12 hz11 hb9 hk10
        have hs_w8 := hb9.size
        refine rw_on (c := decide (5000 < ((rd_L2 ps (i : Int)).length : Int))) rfl rfl rfl (by first | (rw [cR]; rfl) | simp [cR]) ?_
        have hgB_ := ((TapeAt.on hT_ hb9)).2.1
        have hr_ := of_decide_eq_false cR
        refine rw_call rfl rfl rfl rfl (f := 12) (args := #[.pointer (some ⟨g3, 0, none⟩), .slice (some ⟨g7, 0, none⟩) 1 1]) (by simp [go_sem, sEv, sLook, nbeq, i64_w, -List.length_flatten]) (append_pl w w8 g3 mm ((ps.take i).flatten) ((ps.take (min i k)).flatten.length : Int) stp (TapeAt.on hT_ hb9) (by omega) (by omega) (by omega) _ [(rd_L2 ps (i : Int))] 1 (rowsK1 (hk10) (fun hq => by omega) hle_ (Kd.C_kept_came (Kd.heap_int _) hC_ (chain hT_.1 hb9) (fun k hk => by omega))) (by simp) (by simp; omega) (by simp only [List.flatten_cons, List.flatten_nil, List.append_nil]; omega)) ?_
        rintro e_ w13 ⟨rfl, hT14, hs15⟩
        refine ⟨_, rfl, ?_⟩
        have hs_w13 := hT14.1.size
        have hT14_ : TapeAt w w13 g3 w13.heap.size (pl (ps.take (i + 1)).flatten ((ps.take (min i k)).flatten.length : Int) (stp + 1)) := by have h_ := hT14; rw [htf_]; simpa using h_
        refine rw_on (c := decide (5000 < ((rd_L2 ps (i : Int)).length : Int))) rfl rfl rfl (by first | (rw [cR]; rfl) | simp [cR]) ?_
        refine rw_val (v := .bool ((none : Option Int).isSome)) (w' := w13) rfl rfl rfl rfl (run_as (guard_err_neq _ (none : Option Int) _)) ?_
        refine rw_val (v := .bool ((none : Option Int).isSome)) (w' := w13) rfl rfl rfl rfl (by first | (simp [go_sem, sEv, sLook, nbeq, i64_w, -List.length_flatten, cR]; done) | (simp [go_sem, sEv, sLook, nbeq, i64_w, -List.length_flatten] <;> omega) | (simp [go_sem, sEv, sLook, nbeq, i64_w, -List.length_flatten]; intro h_; exact absurd (by omega) h_) | (rw [cR])) ?_
        refine rw_end ?_
        refine w_weaken (G' := [(2, .int .i64 keep), (6, .bool false), (7, .pointer (some ⟨g3, 0, none⟩)), (8, .string (strOfNums (ps.take (min i k)).flatten)), (9, .string (strOfNums (ps.take i).flatten)), (10, .int .i64 (k : Int)), (11, .int .i64 (i : Int)), (12, .slice A1 ((rd_L2 ps (i : Int)).length) c1), (29, .slice (some ad) ps.length pc), (30, .int .i64 (ps.length : Int)), (31, .int .i64 (i : Int)), (45, .bool ((none : Option Int).isSome))]) ⟨rfl, rfl, rfl, rfl, rfl, rfl, rfl, rfl, rfl, rfl, rfl, rfl, trivial⟩ ?_
        have hq16 : ((none : Option Int).isSome) = false := by rfl
        refine w_cond_f rfl rfl hq16 ?_
        refine w_skip ?_
        refine w_seq ?_
        refine w_region ?_
        refine rw_val (v := .string (strOfNums (ps.take i).flatten)) (w' := w13) rfl rfl rfl rfl rfl ?_
        refine rw_val (v := .slice A1 ((rd_L2 ps (i : Int)).length) c1) (w' := w13) rfl rfl rfl rfl rfl ?_
        refine rw_val (v := .string (strOfNums (rd_L2 ps (i : Int)))) (w' := w13) rfl rfl rfl rfl (run_as (run_str_of (P := Try.prog) (e := 5) (by kernel_rfl) (by kernel_rfl) (by kernel_rfl) (Kd.C_below hC_ hT14_.1))) ?_
        refine rw_val (v := .string (strOfNums (ps.take (i + 1)).flatten)) (w' := w13) rfl rfl rfl rfl (by rw [htf_]; exact run_as (run_str_add _ _ (by omega) _)) ?_
        refine rw_val (v := .string (strOfNums (ps.take (i + 1)).flatten)) (w' := w13) rfl rfl rfl rfl rfl ?_
        refine rw_end ?_
        refine w_weaken (G' := [(2, .int .i64 keep), (6, .bool false), (7, .pointer (some ⟨g3, 0, none⟩)), (8, .string (strOfNums (ps.take (min i k)).flatten)), (9, .string (strOfNums (ps.take (i + 1)).flatten)), (10, .int .i64 (k : Int)), (11, .int .i64 (i : Int)), (29, .slice (some ad) ps.length pc), (30, .int .i64 (ps.length : Int)), (31, .int .i64 (i : Int))]) ⟨rfl, rfl, rfl, rfl, rfl, rfl, rfl, rfl, rfl, rfl, trivial⟩ ?_
        refine w_seq ?_
        refine w_region ?_
        refine rw_val (v := .int .i64 (i : Int)) (w' := w13) rfl rfl rfl rfl rfl ?_
        refine rw_val (v := .int .i64 (k : Int)) (w' := w13) rfl rfl rfl rfl rfl ?_
        refine rw_val (v := .bool (decide ((i : Int) < (k : Int)))) (w' := w13) rfl rfl rfl rfl (by simp [go_sem, sEv, sLook, nbeq, i64_w, -List.length_flatten]) ?_
        refine rw_end ?_
        refine w_cond rfl rfl (fun cK => ?_) (fun cK => ?_)
        · refine w_seq ?_
          refine w_seq ?_
          refine w_region ?_
          refine rw_val (v := .pointer (some ⟨g3, 0, none⟩)) (w' := w13) rfl rfl rfl rfl rfl ?_
          refine rw_call rfl rfl rfl rfl (f := 13) (args := #[.pointer (some ⟨g3, 0, none⟩)]) (by simp [go_sem, sEv, sLook, nbeq, i64_w, -List.length_flatten]) (sync_pl w w13 g3 w13.heap.size ((ps.take (i + 1)).flatten) ((ps.take (min i k)).flatten.length : Int) (stp + 1) hT14_ (by omega) (by omega) (by omega)) ?_
          rintro e_ w17 ⟨rfl, hT18, hs19⟩
          refine ⟨_, rfl, ?_⟩
          have hs_w17 := hT18.1.size
          refine rw_val (v := .bool ((none : Option Int).isSome)) (w' := w17) rfl rfl rfl rfl (run_as (guard_err_neq _ (none : Option Int) _)) ?_
          refine rw_end ?_
          refine w_cond_f rfl rfl hq16 ?_
          refine w_skip ?_
          refine w_region ?_
          refine rw_val (v := .string (strOfNums (ps.take (i + 1)).flatten)) (w' := w17) rfl rfl rfl rfl rfl ?_
          refine rw_val (v := .string (strOfNums (ps.take (i + 1)).flatten)) (w' := w17) rfl rfl rfl rfl rfl ?_
          refine rw_end ?_
          refine w_blk ?_
          refine w_region ?_
          refine rw_val (v := .int .i64 ((i + 1 : Nat) : Int)) (w' := w17) rfl rfl rfl rfl (by simp [go_sem, sEv, sLook, nbeq, i64_w, -List.length_flatten]; have l_ := of_decide_eq_true cL; have hn_ := of_decide_eq_false cN; exact wrap_id (by omega) (by omega)) ?_
          refine rw_val (v := .int .i64 ((i + 1 : Nat) : Int)) (w' := w17) rfl rfl rfl rfl rfl ?_
          refine rw_end ?_
          have l_ := of_decide_eq_true cL
          have k_ := of_decide_eq_true cK
          have r_ := of_decide_eq_false cR
          have em_ : min (i + 1) k = i + 1 := by omega
          exact w_back (m_ - 1) [(2, .int .i64 keep), (6, .bool false), (7, .pointer (some ⟨g3, 0, none⟩)), (8, .string (strOfNums (ps.take (i + 1)).flatten)), (9, .string (strOfNums (ps.take (i + 1)).flatten)), (10, .int .i64 (k : Int)), (29, .slice (some ad) ps.length pc), (30, .int .i64 (ps.length : Int)), (31, .int .i64 ((i + 1 : Nat) : Int))] (by omega) ⟨rfl, rfl, rfl, rfl, rfl, rfl, rfl, rfl, rfl, trivial⟩ ⟨i + 1, _, _, by omega, (by omega : 0 ≤ (stp + 1 + 1)), by omega, by omega, by rw [em_]; exact hT18, by rw [em_]⟩
        · refine w_skip ?_
          refine w_blk ?_
          refine w_region ?_
          refine rw_val (v := .int .i64 ((i + 1 : Nat) : Int)) (w' := w13) rfl rfl rfl rfl (by simp [go_sem, sEv, sLook, nbeq, i64_w, -List.length_flatten]; have l_ := of_decide_eq_true cL; have hn_ := of_decide_eq_false cN; exact wrap_id (by omega) (by omega)) ?_
          refine rw_val (v := .int .i64 ((i + 1 : Nat) : Int)) (w' := w13) rfl rfl rfl rfl rfl ?_
          refine rw_end ?_
          have l_ := of_decide_eq_true cL
          have k_ := of_decide_eq_false cK
          have r_ := of_decide_eq_false cR
          have em_ : min (i + 1) k = min i k := by omega
          exact w_back (m_ - 1) [(2, .int .i64 keep), (6, .bool false), (7, .pointer (some ⟨g3, 0, none⟩)), (8, .string (strOfNums (ps.take (min i k)).flatten)), (9, .string (strOfNums (ps.take (i + 1)).flatten)), (10, .int .i64 (k : Int)), (29, .slice (some ad) ps.length pc), (30, .int .i64 (ps.length : Int)), (31, .int .i64 ((i + 1 : Nat) : Int))] (by omega) ⟨rfl, rfl, rfl, rfl, rfl, rfl, rfl, rfl, rfl, trivial⟩ ⟨i + 1, _, _, by omega, (by omega : 0 ≤ (stp + 1)), by omega, by omega, by rw [em_]; exact hT14_, by rw [em_]⟩
      · refine rw_off (c := decide (5000 < ((rd_L2 ps (i : Int)).length : Int))) rfl rfl rfl (by first | (rw [cR]; rfl) | simp [cR]) rfl rfl ?_
        refine rw_off (c := decide (5000 < ((rd_L2 ps (i : Int)).length : Int))) rfl rfl rfl (by first | (rw [cR]; rfl) | simp [cR]) rfl rfl ?_
        refine rw_off (c := decide (5000 < ((rd_L2 ps (i : Int)).length : Int))) rfl rfl rfl (by first | (rw [cR]; rfl) | simp [cR]) rfl rfl ?_
        refine rw_off (c := decide (5000 < ((rd_L2 ps (i : Int)).length : Int))) rfl rfl rfl (by first | (rw [cR]; rfl) | simp [cR]) rfl rfl ?_
        refine rw_off (c := decide (5000 < ((rd_L2 ps (i : Int)).length : Int))) rfl rfl rfl (by first | (rw [cR]; rfl) | simp [cR]) rfl rfl ?_
        refine rw_val (v := .bool true) (w' := w_) rfl rfl rfl rfl (by first | (simp [go_sem, sEv, sLook, nbeq, i64_w, -List.length_flatten, cR]; done) | (simp [go_sem, sEv, sLook, nbeq, i64_w, -List.length_flatten] <;> omega) | (simp [go_sem, sEv, sLook, nbeq, i64_w, -List.length_flatten]; intro h_; exact absurd (by omega) h_) | (rw [cR])) ?_
        refine rw_end ?_
        refine w_weaken (G' := [(2, .int .i64 keep), (6, .bool false), (7, .pointer (some ⟨g3, 0, none⟩)), (8, .string (strOfNums (ps.take (min i k)).flatten)), (9, .string (strOfNums (ps.take i).flatten)), (10, .int .i64 (k : Int)), (11, .int .i64 (i : Int)), (12, .slice A1 ((rd_L2 ps (i : Int)).length) c1), (29, .slice (some ad) ps.length pc), (30, .int .i64 (ps.length : Int)), (31, .int .i64 (i : Int)), (45, .bool true)]) ⟨rfl, rfl, rfl, rfl, rfl, rfl, rfl, rfl, rfl, rfl, rfl, rfl, trivial⟩ ?_
        refine w_cond_t rfl rfl rfl ?_
        refine w_seq ?_
        refine w_region ?_
        refine rw_val (v := .slice A1 ((rd_L2 ps (i : Int)).length) c1) (w' := w_) rfl rfl rfl rfl rfl ?_
        refine rw_val (v := .int .i64 ((rd_L2 ps (i : Int)).length : Int)) (w' := w_) rfl rfl rfl rfl (by simp [go_sem, sEv, sLook, nbeq, i64_w, -List.length_flatten]) ?_
        refine rw_val (v := .bool (decide (5000 < ((rd_L2 ps (i : Int)).length : Int)))) (w' := w_) rfl rfl rfl rfl (by simp [go_sem, sEv, sLook, nbeq, i64_w, -List.length_flatten]) ?_
        refine rw_val (v := .bool (decide (5000 < ((rd_L2 ps (i : Int)).length : Int)))) (w' := w_) rfl rfl rfl rfl rfl ?_
        refine rw_end ?_
        refine w_weaken (G' := [(2, .int .i64 keep), (6, .bool (decide (5000 < ((rd_L2 ps (i : Int)).length : Int)))), (7, .pointer (some ⟨g3, 0, none⟩)), (8, .string (strOfNums (ps.take (min i k)).flatten)), (9, .string (strOfNums (ps.take i).flatten)), (10, .int .i64 (k : Int)), (11, .int .i64 (i : Int)), (12, .slice A1 ((rd_L2 ps (i : Int)).length) c1), (29, .slice (some ad) ps.length pc), (30, .int .i64 (ps.length : Int)), (31, .int .i64 (i : Int))]) ⟨rfl, rfl, rfl, rfl, rfl, rfl, rfl, rfl, rfl, rfl, rfl, trivial⟩ ?_
        refine w_ret (post_ret1 rfl rfl ?_)
        exact ⟨by simp only [cR], hT_.1⟩
    · refine w_exit rfl ?_
      refine w_seq ?_
      refine w_region ?_
      refine rw_val (v := .pointer (some ⟨g3, 0, none⟩)) (w' := w_) rfl rfl rfl rfl rfl ?_
      refine rw_val (v := .int .i64 keep) (w' := w_) rfl rfl rfl rfl rfl ?_
      have hfl3_ := flat_le ps i k
      refine rw_call rfl rfl rfl rfl (f := 14) (args := #[.pointer (some ⟨g3, 0, none⟩), .int .i64 keep]) (by simp [go_sem, sEv, sLook, nbeq, i64_w, -List.length_flatten]) (crash_pl w w_ g3 mm ((ps.take i).flatten) ((ps.take (min i k)).flatten.length : Int) stp hT_ (by omega) (by omega) (by omega) keep ((ps.take i).flatten.take (((ps.take (min i k)).flatten.length : Int) + min (max keep 0) (((ps.take i).flatten.length : Int) - ((ps.take (min i k)).flatten.length : Int))).toNat) rfl) ?_
      rintro e_ w20 ⟨rfl, hT21, hs22⟩
      refine ⟨.tuple #[], rfl, ?_⟩
      have hs_w20 := hT21.1.size
      have hY_ : ((ps.take i).flatten.take (((ps.take (min i k)).flatten.length : Int) + min (max keep 0) (((ps.take i).flatten.length : Int) - ((ps.take (min i k)).flatten.length : Int))).toNat).length = (((ps.take (min i k)).flatten.length : Int) + min (max keep 0) (((ps.take i).flatten.length : Int) - ((ps.take (min i k)).flatten.length : Int))).toNat := by rw [List.length_take]; omega
      refine rw_end ?_
      refine w_seq ?_
      refine w_region ?_
      refine rw_val (v := .pointer (some ⟨g3, 0, none⟩)) (w' := w20) rfl rfl rfl rfl rfl ?_
      refine rw_call rfl rfl rfl rfl (f := 15) (args := #[.pointer (some ⟨g3, 0, none⟩)]) (by simp [go_sem, sEv, sLook, nbeq, i64_w, -List.length_flatten]) (read_pl w w20 g3 w20.heap.size ((ps.take i).flatten.take (((ps.take (min i k)).flatten.length : Int) + min (max keep 0) (((ps.take i).flatten.length : Int) - ((ps.take (min i k)).flatten.length : Int))).toNat) (((ps.take i).flatten.take (((ps.take (min i k)).flatten.length : Int) + min (max keep 0) (((ps.take i).flatten.length : Int) - ((ps.take (min i k)).flatten.length : Int))).toNat).length : Int) stp hT21 (by omega) (by omega) (by omega)) ?_
      rintro e_ w26 ⟨A23, n24, c25, rfl, hO27, hB28⟩
      refine ⟨_, rfl, ?_⟩
      have hs_w26 := hB28.size
      have hL29 : Own .u8 5 w26 w.heap.size w20.heap.size A23 n24 c25 ((ps.take i).flatten.take (((ps.take (min i k)).flatten.length : Int) + min (max keep 0) (((ps.take i).flatten.length : Int) - ((ps.take (min i k)).flatten.length : Int))).toNat) := Own.lower hO27 (by omega)
      refine rw_val (v := .string (strOfNums ((ps.take i).flatten.take (((ps.take (min i k)).flatten.length : Int) + min (max keep 0) (((ps.take i).flatten.length : Int) - ((ps.take (min i k)).flatten.length : Int))).toNat))) (w' := w26) rfl rfl rfl rfl (run_as (run_str_of (P := Try.prog) (e := 5) (by kernel_rfl) (by kernel_rfl) (by kernel_rfl) (show (Kd.int .u8).C _ _ n24 ((ps.take i).flatten.take (((ps.take (min i k)).flatten.length : Int) + min (max keep 0) (((ps.take i).flatten.length : Int) - ((ps.take (min i k)).flatten.length : Int))).toNat) by rw [hL29.len]; exact (Own.C (hL29.on (Below.refl _ _)))))) ?_
      refine rw_val (v := .string (strOfNums ((ps.take i).flatten.take (((ps.take (min i k)).flatten.length : Int) + min (max keep 0) (((ps.take i).flatten.length : Int) - ((ps.take (min i k)).flatten.length : Int))).toNat))) (w' := w26) rfl rfl rfl rfl rfl ?_
      refine rw_end ?_
      refine w_weaken (G' := [(2, .int .i64 keep), (6, .bool false), (7, .pointer (some ⟨g3, 0, none⟩)), (8, .string (strOfNums (ps.take (min i k)).flatten)), (9, .string (strOfNums (ps.take i).flatten)), (13, .string (strOfNums ((ps.take i).flatten.take (((ps.take (min i k)).flatten.length : Int) + min (max keep 0) (((ps.take i).flatten.length : Int) - ((ps.take (min i k)).flatten.length : Int))).toNat)))]) ⟨rfl, rfl, rfl, rfl, rfl, rfl, trivial⟩ ?_
      refine w_seq ?_
      refine w_region ?_
      refine rw_val (v := .string (strOfNums (ps.take (min i k)).flatten)) (w' := w26) rfl rfl rfl rfl rfl ?_
      refine rw_val (v := .int .i64 ((ps.take (min i k)).flatten.length : Int)) (w' := w26) rfl rfl rfl rfl (by simp [go_sem, sEv, sLook, nbeq, i64_w, -List.length_flatten, strOfNums_size]) ?_
      refine rw_val (v := .int .i64 keep) (w' := w26) rfl rfl rfl rfl rfl ?_
      refine rw_val (v := .int .i64 (max keep 0)) (w' := w26) rfl rfl rfl rfl (by simp [go_sem, sEv, sLook, nbeq, i64_w, -List.length_flatten, max2_int, min2_int, max_two, min_two] <;> omega) ?_
      refine rw_val (v := .string (strOfNums (ps.take i).flatten)) (w' := w26) rfl rfl rfl rfl rfl ?_
      refine rw_val (v := .int .i64 ((ps.take i).flatten.length : Int)) (w' := w26) rfl rfl rfl rfl (by simp [go_sem, sEv, sLook, nbeq, i64_w, -List.length_flatten, strOfNums_size]) ?_
      refine rw_val (v := .string (strOfNums (ps.take (min i k)).flatten)) (w' := w26) rfl rfl rfl rfl rfl ?_
      refine rw_val (v := .int .i64 ((ps.take (min i k)).flatten.length : Int)) (w' := w26) rfl rfl rfl rfl (by simp [go_sem, sEv, sLook, nbeq, i64_w, -List.length_flatten, strOfNums_size]) ?_
      refine rw_val (v := .int .i64 (((ps.take i).flatten.length : Int) - ((ps.take (min i k)).flatten.length : Int))) (w' := w26) rfl rfl rfl rfl (by simp [go_sem, sEv, sLook, nbeq, i64_w, -List.length_flatten]; exact wrap_id (by omega) (by omega)) ?_
      refine rw_val (v := .int .i64 (min (max keep 0) (((ps.take i).flatten.length : Int) - ((ps.take (min i k)).flatten.length : Int)))) (w' := w26) rfl rfl rfl rfl (by simp [go_sem, sEv, sLook, nbeq, i64_w, -List.length_flatten, max2_int, min2_int, max_two, min_two] <;> omega) ?_
      refine rw_val (v := .int .i64 (((ps.take (min i k)).flatten.length : Int) + min (max keep 0) (((ps.take i).flatten.length : Int) - ((ps.take (min i k)).flatten.length : Int)))) (w' := w26) rfl rfl rfl rfl (by simp [go_sem, sEv, sLook, nbeq, i64_w, -List.length_flatten]; exact wrap_id (by omega) (by omega)) ?_
      refine rw_val (v := .int .i64 (((ps.take (min i k)).flatten.length : Int) + min (max keep 0) (((ps.take i).flatten.length : Int) - ((ps.take (min i k)).flatten.length : Int)))) (w' := w26) rfl rfl rfl rfl rfl ?_
      refine rw_end ?_
      refine w_weaken (G' := [(6, .bool false), (7, .pointer (some ⟨g3, 0, none⟩)), (8, .string (strOfNums (ps.take (min i k)).flatten)), (9, .string (strOfNums (ps.take i).flatten)), (13, .string (strOfNums ((ps.take i).flatten.take (((ps.take (min i k)).flatten.length : Int) + min (max keep 0) (((ps.take i).flatten.length : Int) - ((ps.take (min i k)).flatten.length : Int))).toNat))), (14, .int .i64 (((ps.take (min i k)).flatten.length : Int) + min (max keep 0) (((ps.take i).flatten.length : Int) - ((ps.take (min i k)).flatten.length : Int))))]) ⟨rfl, rfl, rfl, rfl, rfl, rfl, trivial⟩ ?_
      refine w_seq ?_
      refine w_region ?_
      refine rw_val (v := .string (strOfNums ((ps.take i).flatten.take (((ps.take (min i k)).flatten.length : Int) + min (max keep 0) (((ps.take i).flatten.length : Int) - ((ps.take (min i k)).flatten.length : Int))).toNat))) (w' := w26) rfl rfl rfl rfl rfl ?_
      refine rw_val (v := .int .i64 (((ps.take i).flatten.take (((ps.take (min i k)).flatten.length : Int) + min (max keep 0) (((ps.take i).flatten.length : Int) - ((ps.take (min i k)).flatten.length : Int))).toNat).length : Int)) (w' := w26) rfl rfl rfl rfl (by simp [go_sem, sEv, sLook, nbeq, i64_w, -List.length_flatten, strOfNums_size]) ?_
      refine rw_val (v := .int .i64 (((ps.take (min i k)).flatten.length : Int) + min (max keep 0) (((ps.take i).flatten.length : Int) - ((ps.take (min i k)).flatten.length : Int)))) (w' := w26) rfl rfl rfl rfl rfl ?_
      refine rw_val (v := .bool ((((ps.take i).flatten.take (((ps.take (min i k)).flatten.length : Int) + min (max keep 0) (((ps.take i).flatten.length : Int) - ((ps.take (min i k)).flatten.length : Int))).toNat).length : Int) == (((ps.take (min i k)).flatten.length : Int) + min (max keep 0) (((ps.take i).flatten.length : Int) - ((ps.take (min i k)).flatten.length : Int))))) (w' := w26) rfl rfl rfl rfl (by simp [go_sem, sEv, sLook, nbeq, i64_w, -List.length_flatten]) ?_
      refine rw_val (v := .bool ((((ps.take i).flatten.take (((ps.take (min i k)).flatten.length : Int) + min (max keep 0) (((ps.take i).flatten.length : Int) - ((ps.take (min i k)).flatten.length : Int))).toNat).length : Int) == (((ps.take (min i k)).flatten.length : Int) + min (max keep 0) (((ps.take i).flatten.length : Int) - ((ps.take (min i k)).flatten.length : Int))))) (w' := w26) rfl rfl rfl rfl rfl ?_
      have hq30 : ((((ps.take i).flatten.take (((ps.take (min i k)).flatten.length : Int) + min (max keep 0) (((ps.take i).flatten.length : Int) - ((ps.take (min i k)).flatten.length : Int))).toNat).length : Int) == (((ps.take (min i k)).flatten.length : Int) + min (max keep 0) (((ps.take i).flatten.length : Int) - ((ps.take (min i k)).flatten.length : Int)))) = true := by simp only [beq_iff_eq]; rw [hY_]; omega
      refine rw_on (c := ((((ps.take i).flatten.take (((ps.take (min i k)).flatten.length : Int) + min (max keep 0) (((ps.take i).flatten.length : Int) - ((ps.take (min i k)).flatten.length : Int))).toNat).length : Int) == (((ps.take (min i k)).flatten.length : Int) + min (max keep 0) (((ps.take i).flatten.length : Int) - ((ps.take (min i k)).flatten.length : Int))))) rfl rfl rfl (by first | (rw [hq30]; rfl) | simp [hq30]) ?_
      refine rw_val (v := .string (strOfNums ((ps.take i).flatten.take (((ps.take (min i k)).flatten.length : Int) + min (max keep 0) (((ps.take i).flatten.length : Int) - ((ps.take (min i k)).flatten.length : Int))).toNat))) (w' := w26) rfl rfl rfl rfl rfl ?_
      refine rw_on (c := ((((ps.take i).flatten.take (((ps.take (min i k)).flatten.length : Int) + min (max keep 0) (((ps.take i).flatten.length : Int) - ((ps.take (min i k)).flatten.length : Int))).toNat).length : Int) == (((ps.take (min i k)).flatten.length : Int) + min (max keep 0) (((ps.take i).flatten.length : Int) - ((ps.take (min i k)).flatten.length : Int))))) rfl rfl rfl (by first | (rw [hq30]; rfl) | simp [hq30]) ?_
      refine rw_val (v := .string (strOfNums (ps.take i).flatten)) (w' := w26) rfl rfl rfl rfl rfl ?_
      refine rw_on (c := ((((ps.take i).flatten.take (((ps.take (min i k)).flatten.length : Int) + min (max keep 0) (((ps.take i).flatten.length : Int) - ((ps.take (min i k)).flatten.length : Int))).toNat).length : Int) == (((ps.take (min i k)).flatten.length : Int) + min (max keep 0) (((ps.take i).flatten.length : Int) - ((ps.take (min i k)).flatten.length : Int))))) rfl rfl rfl (by first | (rw [hq30]; rfl) | simp [hq30]) ?_
      refine rw_val (v := .int .i64 (((ps.take (min i k)).flatten.length : Int) + min (max keep 0) (((ps.take i).flatten.length : Int) - ((ps.take (min i k)).flatten.length : Int)))) (w' := w26) rfl rfl rfl rfl rfl ?_
      refine rw_on (c := ((((ps.take i).flatten.take (((ps.take (min i k)).flatten.length : Int) + min (max keep 0) (((ps.take i).flatten.length : Int) - ((ps.take (min i k)).flatten.length : Int))).toNat).length : Int) == (((ps.take (min i k)).flatten.length : Int) + min (max keep 0) (((ps.take i).flatten.length : Int) - ((ps.take (min i k)).flatten.length : Int))))) rfl rfl rfl (by first | (rw [hq30]; rfl) | simp [hq30]) ?_
      refine rw_val (v := .string (strOfNums ((ps.take i).flatten.take (((ps.take (min i k)).flatten.length : Int) + min (max keep 0) (((ps.take i).flatten.length : Int) - ((ps.take (min i k)).flatten.length : Int))).toNat))) (w' := w26) rfl rfl rfl rfl (run_as (run_str_cut (ps.take i).flatten (((ps.take (min i k)).flatten.length : Int) + min (max keep 0) (((ps.take i).flatten.length : Int) - ((ps.take (min i k)).flatten.length : Int))) (by omega) (by omega) _)) ?_
      refine rw_on (c := ((((ps.take i).flatten.take (((ps.take (min i k)).flatten.length : Int) + min (max keep 0) (((ps.take i).flatten.length : Int) - ((ps.take (min i k)).flatten.length : Int))).toNat).length : Int) == (((ps.take (min i k)).flatten.length : Int) + min (max keep 0) (((ps.take i).flatten.length : Int) - ((ps.take (min i k)).flatten.length : Int))))) rfl rfl rfl (by first | (rw [hq30]; rfl) | simp [hq30]) ?_
      refine rw_val (v := .bool true) (w' := w26) rfl rfl rfl rfl (run_bool (run_as (run_str_eql 9 _ _ _)) (by simp)) ?_
      refine rw_val (v := .bool true) (w' := w26) rfl rfl rfl rfl (by first | (simp [go_sem, sEv, sLook, nbeq, i64_w, -List.length_flatten, hq30]; done) | (simp [go_sem, sEv, sLook, nbeq, i64_w, -List.length_flatten] <;> omega) | (simp [go_sem, sEv, sLook, nbeq, i64_w, -List.length_flatten]; intro h_; exact absurd (by omega) h_) | (rw [hq30])) ?_
      refine rw_val (v := .bool true) (w' := w26) rfl rfl rfl rfl rfl ?_
      refine rw_on (c := true) rfl rfl rfl rfl ?_
      refine rw_val (v := .pointer (some ⟨g3, 0, none⟩)) (w' := w26) rfl rfl rfl rfl rfl ?_
      refine rw_on (c := true) rfl rfl rfl rfl ?_
      refine rw_call rfl rfl rfl rfl (f := 16) (args := #[.pointer (some ⟨g3, 0, none⟩)]) (by simp [go_sem, sEv, sLook, nbeq, i64_w, -List.length_flatten]) (sure_pl w w26 g3 w20.heap.size ((ps.take i).flatten.take (((ps.take (min i k)).flatten.length : Int) + min (max keep 0) (((ps.take i).flatten.length : Int) - ((ps.take (min i k)).flatten.length : Int))).toNat) (((ps.take i).flatten.take (((ps.take (min i k)).flatten.length : Int) + min (max keep 0) (((ps.take i).flatten.length : Int) - ((ps.take (min i k)).flatten.length : Int))).toNat).length : Int) stp (TapeAt.on hT21 hB28) (by omega) (by omega) (by omega)) ?_
      rintro e_ w31 ⟨rfl, rfl⟩
      refine ⟨_, rfl, ?_⟩
      refine rw_on (c := true) rfl rfl rfl rfl ?_
      refine rw_val (v := .int .i64 (((ps.take (min i k)).flatten.length : Int) + min (max keep 0) (((ps.take i).flatten.length : Int) - ((ps.take (min i k)).flatten.length : Int)))) (w' := w26) rfl rfl rfl rfl rfl ?_
      refine rw_on (c := true) rfl rfl rfl rfl ?_
      refine rw_val (v := .bool ((((ps.take i).flatten.take (((ps.take (min i k)).flatten.length : Int) + min (max keep 0) (((ps.take i).flatten.length : Int) - ((ps.take (min i k)).flatten.length : Int))).toNat).length : Int) == (((ps.take (min i k)).flatten.length : Int) + min (max keep 0) (((ps.take i).flatten.length : Int) - ((ps.take (min i k)).flatten.length : Int))))) (w' := w26) rfl rfl rfl rfl (by simp [go_sem, sEv, sLook, nbeq, i64_w, -List.length_flatten]) ?_
      refine rw_val (v := .bool ((((ps.take i).flatten.take (((ps.take (min i k)).flatten.length : Int) + min (max keep 0) (((ps.take i).flatten.length : Int) - ((ps.take (min i k)).flatten.length : Int))).toNat).length : Int) == (((ps.take (min i k)).flatten.length : Int) + min (max keep 0) (((ps.take i).flatten.length : Int) - ((ps.take (min i k)).flatten.length : Int))))) (w' := w26) rfl rfl rfl rfl (by simp [go_sem, sEv, sLook, nbeq, i64_w, -List.length_flatten]) ?_
      refine rw_val (v := .bool ((((ps.take i).flatten.take (((ps.take (min i k)).flatten.length : Int) + min (max keep 0) (((ps.take i).flatten.length : Int) - ((ps.take (min i k)).flatten.length : Int))).toNat).length : Int) == (((ps.take (min i k)).flatten.length : Int) + min (max keep 0) (((ps.take i).flatten.length : Int) - ((ps.take (min i k)).flatten.length : Int))))) (w' := w26) rfl rfl rfl rfl rfl ?_
      refine rw_on (c := ((((ps.take i).flatten.take (((ps.take (min i k)).flatten.length : Int) + min (max keep 0) (((ps.take i).flatten.length : Int) - ((ps.take (min i k)).flatten.length : Int))).toNat).length : Int) == (((ps.take (min i k)).flatten.length : Int) + min (max keep 0) (((ps.take i).flatten.length : Int) - ((ps.take (min i k)).flatten.length : Int))))) rfl rfl rfl (by first | (rw [hq30]; rfl) | simp [hq30]) ?_
      refine rw_val (v := .string (strOfNums ((ps.take i).flatten.take (((ps.take (min i k)).flatten.length : Int) + min (max keep 0) (((ps.take i).flatten.length : Int) - ((ps.take (min i k)).flatten.length : Int))).toNat))) (w' := w26) rfl rfl rfl rfl rfl ?_
      refine rw_on (c := ((((ps.take i).flatten.take (((ps.take (min i k)).flatten.length : Int) + min (max keep 0) (((ps.take i).flatten.length : Int) - ((ps.take (min i k)).flatten.length : Int))).toNat).length : Int) == (((ps.take (min i k)).flatten.length : Int) + min (max keep 0) (((ps.take i).flatten.length : Int) - ((ps.take (min i k)).flatten.length : Int))))) rfl rfl rfl (by first | (rw [hq30]; rfl) | simp [hq30]) ?_
      refine rw_val (v := .string (strOfNums (ps.take (min i k)).flatten)) (w' := w26) rfl rfl rfl rfl rfl ?_
      refine rw_on (c := ((((ps.take i).flatten.take (((ps.take (min i k)).flatten.length : Int) + min (max keep 0) (((ps.take i).flatten.length : Int) - ((ps.take (min i k)).flatten.length : Int))).toNat).length : Int) == (((ps.take (min i k)).flatten.length : Int) + min (max keep 0) (((ps.take i).flatten.length : Int) - ((ps.take (min i k)).flatten.length : Int))))) rfl rfl rfl (by first | (rw [hq30]; rfl) | simp [hq30]) ?_
      refine rw_val (v := .int .i64 ((ps.take (min i k)).flatten.length : Int)) (w' := w26) rfl rfl rfl rfl (by simp [go_sem, sEv, sLook, nbeq, i64_w, -List.length_flatten, strOfNums_size]) ?_
      refine rw_on (c := ((((ps.take i).flatten.take (((ps.take (min i k)).flatten.length : Int) + min (max keep 0) (((ps.take i).flatten.length : Int) - ((ps.take (min i k)).flatten.length : Int))).toNat).length : Int) == (((ps.take (min i k)).flatten.length : Int) + min (max keep 0) (((ps.take i).flatten.length : Int) - ((ps.take (min i k)).flatten.length : Int))))) rfl rfl rfl (by first | (rw [hq30]; rfl) | simp [hq30]) ?_
      refine rw_val (v := .string (strOfNums (ps.take (min i k)).flatten)) (w' := w26) rfl rfl rfl rfl (by have h_ := run_str_cut ((ps.take i).flatten.take (((ps.take (min i k)).flatten.length : Int) + min (max keep 0) (((ps.take i).flatten.length : Int) - ((ps.take (min i k)).flatten.length : Int))).toNat) ((ps.take (min i k)).flatten.length : Int) (by omega) (by omega) w26; rw [Int.toNat_natCast, flat_cut ps i k _ (by omega)] at h_; exact run_as h_) ?_
      refine rw_on (c := ((((ps.take i).flatten.take (((ps.take (min i k)).flatten.length : Int) + min (max keep 0) (((ps.take i).flatten.length : Int) - ((ps.take (min i k)).flatten.length : Int))).toNat).length : Int) == (((ps.take (min i k)).flatten.length : Int) + min (max keep 0) (((ps.take i).flatten.length : Int) - ((ps.take (min i k)).flatten.length : Int))))) rfl rfl rfl (by first | (rw [hq30]; rfl) | simp [hq30]) ?_
      refine rw_val (v := .string (strOfNums (ps.take (min i k)).flatten)) (w' := w26) rfl rfl rfl rfl rfl ?_
      refine rw_on (c := ((((ps.take i).flatten.take (((ps.take (min i k)).flatten.length : Int) + min (max keep 0) (((ps.take i).flatten.length : Int) - ((ps.take (min i k)).flatten.length : Int))).toNat).length : Int) == (((ps.take (min i k)).flatten.length : Int) + min (max keep 0) (((ps.take i).flatten.length : Int) - ((ps.take (min i k)).flatten.length : Int))))) rfl rfl rfl (by first | (rw [hq30]; rfl) | simp [hq30]) ?_
      refine rw_val (v := .bool true) (w' := w26) rfl rfl rfl rfl (run_bool (run_as (run_str_eql 9 _ _ _)) (by simp)) ?_
      refine rw_val (v := .bool true) (w' := w26) rfl rfl rfl rfl (by first | (simp [go_sem, sEv, sLook, nbeq, i64_w, -List.length_flatten, hq30]; done) | (simp [go_sem, sEv, sLook, nbeq, i64_w, -List.length_flatten] <;> omega) | (simp [go_sem, sEv, sLook, nbeq, i64_w, -List.length_flatten]; intro h_; exact absurd (by omega) h_) | (rw [hq30])) ?_
      refine rw_val (v := .bool true) (w' := w26) rfl rfl rfl rfl rfl ?_
      refine rw_end ?_
      refine w_weaken (G' := [(6, .bool true)]) ⟨rfl, trivial⟩ ?_
      refine w_ret (post_ret1 rfl rfl ?_)
      exact ⟨rfl, (chain hT21.1 hB28)⟩

theorem walkSure (w : World) (P0 : Option Addr) (ps : List (List Int)) (pc : Nat) (hP : (Kd.slice 5 (Kd.int .u8)).C w P0 ps.length ps) (ks keep : Int) : Calls Try.prog 3 #[.slice P0 ps.length pc, .int .i64 ks, .int .i64 keep] w fun e w' => e = .returned (.bool true) ∧ Below w.heap.size w w' := by
  have h0 : 0 ≤ IntKind.u64.wrap ks := by rw [u64_wrap]; omega
  have h1 := Int.emod_nonneg (IntKind.u64.wrap ks) (show (ps.length : Int) + 1 ≠ 0 by omega)
  have h2 := Int.emod_lt_of_pos (IntKind.u64.wrap ks) (show 0 < (ps.length : Int) + 1 by omega)
  obtain ⟨k, hk⟩ := Int.eq_ofNat_of_zero_le h1
  exact sure_nat w P0 ps pc hP ks keep k (fun _ => by rw [Int.tmod_eq_emod_of_nonneg h0]; exact hk) (fun _ => by omega)
end Go.Proofs.Ytpbpeklbmmbigaa.Tp
