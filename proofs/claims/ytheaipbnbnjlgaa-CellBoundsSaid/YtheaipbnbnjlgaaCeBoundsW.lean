/- A cell's values are samples': the law's walk. -/
import Derived.Test.YtheaipbnbnjlgaaCeBounds
namespace Go.Proofs.Ytheaipbnbnjlgaa.Ce
open Go.RowKit Go.Proofs.YtheaipbnbnjlgaaW.PrintWords Go.Proofs.YtheaipbnbnjlgaaW.PrintLast Go.Proofs.YtheaipbnbnjlgaaW.PrintMore
open Go.Proofs.Ytheaipbnbnjlgaa.Flow
set_option linter.unusedVariables false
set_option linter.unusedSimpArgs false


theorem cells_len (l : List Smp) : (cellsC l).length = l.length := by simp [cellsC]
theorem join_bounds (w : World) (A1 : Option Addr) (c1 : Nat) (l : List Smp) (hl : kCell.C w A1 (cellsC l).length (cellsC l)) (hc : (cellsC l).length ≤ c1) (hn : l.length ≤ 2000) (hv : ∀ s ∈ l, -9223372036854775808 ≤ s.2.2.2.2.2 ∧ s.2.2.2.2.2 ≤ 9223372036854775807) :
    Calls Try.prog 11 #[.slice A1 (cellsC l).length c1] w fun e w' => ∃ c, e = .returned (.agg (carr c)) ∧ Bnd l c ∧ Below w.heap.size w w' := by
  refine (join_calls w A1 c1 (cellsC l) hl hc (by rw [cells_len]; omega) (cells_lo l)).mono fun e w' h => ?_
  exact ⟨_, h.1, cells_bnd l hn hv, h.2⟩
set_option maxHeartbeats 4000000 in
theorem walkBounds (w : World) (A1 : Option Addr) (c1 : Nat) (l : List Smp) (hl : kSample.C w A1 l.length l) (hc : l.length ≤ c1) (hln : l.length ≤ 140737488355328) (hv : ∀ s ∈ l, -9223372036854775808 ≤ s.2.2.2.2.2 ∧ s.2.2.2.2.2 ≤ 9223372036854775807) :
    Calls Try.prog 7 #[.slice A1 l.length c1] w fun e w' => e = .returned (.bool true) ∧ Below w.heap.size w w' := by
  refine calls_flow Try.func7 rfl 116 rfl (Nat.le_of_ble_eq_true rfl) [(0, .slice A1 l.length c1)] ?_ ?_
  · intro t v h; exact args_look rfl t v h
  refine w_seq ?_
  refine w_region ?_
  refine rw_val (v := .bool false) (w' := w) rfl rfl rfl rfl rfl ?_
  refine rw_end ?_
  refine w_seq ?_
  refine w_seq ?_
  refine w_region ?_
  refine rw_call rfl rfl rfl rfl (f := 10) (args := #[]) (by simp [go_sem, sEv, sLook, nbeq, i64_w, -List.getD_eq_getElem?_getD]) (alive_calls w) ?_
  rintro e_ w1 ⟨rfl, hb2⟩
  refine ⟨_, rfl, ?_⟩
  have hs_w1 := hb2.size
  refine rw_val (v := .bool false) (w' := w1) rfl rfl rfl rfl (by simp [go_sem, sEv, sLook, nbeq, i64_w, -List.getD_eq_getElem?_getD]) ?_
  refine rw_end ?_
  refine w_cond_f rfl rfl rfl ?_
  refine w_skip ?_
  refine w_seq ?_
  refine w_seq ?_
  refine w_region ?_
  refine rw_val (v := .slice A1 l.length c1) (w' := w1) rfl rfl rfl rfl rfl ?_
  refine rw_val (v := .int .i64 ((l.length : Nat) : Int)) (w' := w1) rfl rfl rfl rfl (by simp [go_sem, sEv, sLook, nbeq, i64_w, -List.getD_eq_getElem?_getD]) ?_
  refine rw_val (v := .bool (decide (2000 < ((l.length : Nat) : Int)))) (w' := w1) rfl rfl rfl rfl (by simp [go_sem, sEv, sLook, nbeq, i64_w, -List.getD_eq_getElem?_getD]) ?_
  refine rw_end ?_
  refine w_cond rfl rfl (fun cN => ?_) (fun cN => ?_)
  · have l3 : (2000 < ((l.length : Nat) : Int)) := of_decide_eq_true cN
    refine w_seq ?_
    refine w_region ?_
    refine rw_val (v := .bool true) (w' := w1) rfl rfl rfl rfl rfl ?_
    refine rw_end ?_
    refine w_ret (post_ret1 rfl rfl ?_)
    exact ⟨rfl, hb2⟩
  · have l4 : ¬ (2000 < ((l.length : Nat) : Int)) := of_decide_eq_false cN
    refine w_skip ?_
    refine w_seq ?_
    refine w_region ?_
    refine rw_val (v := .slice A1 l.length c1) (w' := w1) rfl rfl rfl rfl rfl ?_
    refine rw_call rfl rfl rfl rfl (f := 12) (args := #[.slice A1 l.length c1]) (by simp [go_sem, sEv, sLook, nbeq, i64_w, -List.getD_eq_getElem?_getD]) (cells_calls w1 A1 c1 l (Kd.C_below hl hb2) hc (by omega) hv) ?_
    rintro e_ w7 ⟨A5, c6, rfl, hO8, hB9⟩
    refine ⟨_, rfl, ?_⟩
    have hs_w7 := hB9.size
    have hL10 : OwnK kCell 31 w7 w.heap.size w1.heap.size A5 (cellsC l).length c6 (cellsC l) := OwnK.lower hO8 (by omega)
    refine rw_call rfl rfl rfl rfl (f := 11) (args := #[.slice A5 ((cellsC l).length) c6]) (by simp [go_sem, sEv, sLook, nbeq, i64_w, -List.getD_eq_getElem?_getD]) (join_bounds w7 A5 c6 l (Kd.C_below (OwnK.C (d := kCell) hL10) (Below.refl _ _)) (OwnK.cap (d := kCell) hL10) (by omega) hv) ?_
    rintro e_ w11 ⟨c, rfl, hI13, hb12⟩
    refine ⟨_, rfl, ?_⟩
    have hs_w11 := hb12.size
    refine rw_new (cs := carr CL.unit) (t := 31) (fun g => .pointer (some ⟨g, 0, none⟩)) rfl rfl rfl rfl (by kernel_rfl) ?_
    intro g14 w15 hg19 hz18 hb16 hk17
    have hs_w15 := hb16.size
    refine rw_seg (g := g14) (off := 0) (ty := 31) (p := .tmp 3) (x := .tmp 20) (v := .agg (carr c)) (cs' := carr c) rfl rfl rfl rfl rfl rfl hk17 (by show (sizeOf 31).run _ _ = .ok (carr _).size _; rw [carr_size]; kernel_rfl) (Nat.le_of_eq (by rw [Nat.zero_add]; exact (carr_size _).trans (carr_size _).symm)) (encC_one _) (seg_all CL.unit c) ?_
    intro w20 hk21 hb22
    have hs_w20 := hk21.size
    refine rw_end ?_
    refine w_weaken (G' := [(0, .slice A1 l.length c1), (2, .bool false), (3, .pointer (some ⟨g14, 0, none⟩))]) ⟨rfl, rfl, rfl, trivial⟩ ?_
    refine w_seq ?_
    refine w_region ?_
    refine rw_val (v := .int .i64 0) (w' := w20) rfl rfl rfl rfl rfl ?_
    refine rw_end ?_
    refine w_seq ?_
    refine w_seq ?_
    refine w_region ?_
    refine rw_val (v := .pointer (some ⟨g14, 9, none⟩)) (w' := w20) rfl rfl rfl rfl (by simp [go_sem, sEv, sLook, nbeq, i64_w, -List.getD_eq_getElem?_getD, Try.underlying31]) ?_
    refine rw_val (v := .agg (encH c.h).toArray) (w' := w20) rfl rfl rfl rfl (run_as (load_hist (c := c) hb22)) ?_
    refine rw_val (v := .int .i64 0) (w' := w20) rfl rfl rfl rfl rfl ?_
    refine rw_end ?_
    refine w_block ?_
    refine w_loop (fun m_ G W_ => ∃ (j : Nat) (n : Int), j + m_ = 65 ∧ Below w.heap.size w W_ ∧ (n = psum c.h j) ∧ (Blk W_ g14 31 (carr c)) ∧ G = [(0, .slice A1 l.length c1), (3, .pointer (some ⟨g14, 0, none⟩)), (4, .int .i64 n), (22, .agg (encH c.h).toArray), (23, .int .i64 ((j : Nat) : Int))]) 65 [(0, .slice A1 l.length c1), (3, .pointer (some ⟨g14, 0, none⟩)), (4, .int .i64 0), (22, .agg (encH c.h).toArray), (23, .int .i64 0)] ⟨0, 0, by omega, (hk21.below (by omega) (chain (chain (chain hb2 hB9) hb12) hb16)), rfl, hb22, rfl⟩ ⟨rfl, rfl, rfl, rfl, rfl, trivial⟩ ?_
    rintro m_ G w_L23 ⟨j, n, hp24, hB_L23, hf25, hf26, rfl⟩
    have hs_w_L23 := hB_L23.size
    have hle_ := psum_le c.h (fun i => (hI13.h i).1) j (by omega)
    have hge_ := psum_nonneg c.h (fun i => (hI13.h i).1) j
    have hsum_ := hI13.sum
    have hnx_ : psum c.h (j + 1) = psum c.h j + atF c.h j := rfl
    have hnl_ := fun hj_ => psum_le c.h (fun i => (hI13.h i).1) (j + 1) hj_
    have hng_ := psum_nonneg c.h (fun i => (hI13.h i).1) (j + 1)
    refine w_seq ?_
    refine w_region ?_
    refine rw_val (v := .bool (decide (((j : Nat) : Int) < 65))) (w' := w_L23) rfl rfl rfl rfl (by simp [go_sem, sEv, sLook, nbeq, i64_w, -List.getD_eq_getElem?_getD]) ?_
    refine rw_end ?_
    refine w_seq ?_
    refine w_cond rfl rfl (fun cJ => ?_) (fun cJ => ?_)
    · have l27 : (((j : Nat) : Int) < 65) := of_decide_eq_true cJ
      refine w_skip ?_
      refine w_seq ?_
      refine w_block ?_
      refine w_seq ?_
      refine w_region ?_
      refine rw_val (v := .int .i64 (atF c.h j)) (w' := w_L23) rfl rfl rfl rfl (run_as (index_at c.h j (by omega) _)) ?_
      refine rw_val (v := .int .i64 (atF c.h j)) (w' := w_L23) rfl rfl rfl rfl rfl ?_
      refine rw_end ?_
      refine w_region ?_
      refine rw_val (v := .int .i64 n) (w' := w_L23) rfl rfl rfl rfl rfl ?_
      refine rw_val (v := .int .i64 (atF c.h j)) (w' := w_L23) rfl rfl rfl rfl rfl ?_
      refine rw_val (v := .int .i64 (n + (atF c.h j))) (w' := w_L23) rfl rfl rfl rfl (by simp [go_sem, sEv, sLook, nbeq, i64_w, -List.getD_eq_getElem?_getD]; exact wrap_id (by omega) (by omega)) ?_
      refine rw_val (v := .int .i64 (n + (atF c.h j))) (w' := w_L23) rfl rfl rfl rfl rfl ?_
      refine rw_end ?_
      refine w_weaken (G' := [(0, .slice A1 l.length c1), (3, .pointer (some ⟨g14, 0, none⟩)), (4, .int .i64 (n + (atF c.h j))), (22, .agg (encH c.h).toArray), (23, .int .i64 ((j : Nat) : Int))]) ⟨rfl, rfl, rfl, rfl, rfl, trivial⟩ ?_
      refine w_blk ?_
      refine w_region ?_
      refine rw_val (v := .int .i64 ((j + 1 : Nat) : Int)) (w' := w_L23) rfl rfl rfl rfl (by simp [go_sem, sEv, sLook, nbeq, i64_w, -List.getD_eq_getElem?_getD]; exact wrap_id (by omega) (by omega)) ?_
      refine rw_val (v := .int .i64 ((j + 1 : Nat) : Int)) (w' := w_L23) rfl rfl rfl rfl rfl ?_
      refine rw_end ?_
      exact w_back (m_ - 1) [(0, .slice A1 l.length c1), (3, .pointer (some ⟨g14, 0, none⟩)), (4, .int .i64 (n + (atF c.h j))), (22, .agg (encH c.h).toArray), (23, .int .i64 ((j + 1 : Nat) : Int))] (by omega) ⟨rfl, rfl, rfl, rfl, rfl, trivial⟩ ⟨(j + 1), (n + (atF c.h j)), by omega, hB_L23, (by rw [hnx_, ← hf25]), hf26, rfl⟩
    · have l28 : ¬ (((j : Nat) : Int) < 65) := of_decide_eq_false cJ
      refine w_exit rfl ?_
      refine w_seq ?_
      refine w_seq ?_
      refine w_region ?_
      refine rw_val (v := .pointer (some ⟨g14, 0, none⟩)) (w' := w_L23) rfl rfl rfl rfl (by simp [go_sem, sEv, sLook, nbeq, i64_w, -List.getD_eq_getElem?_getD, Try.underlying31]) ?_
      refine rw_val (v := .int .i64 c.cnt) (w' := w_L23) rfl rfl rfl rfl (by have eb_ := hf26; have e0_ := eb_.cellv (v := .int .i64 c.cnt) (cA0 c); simp [go_sem, sEv, sLook, nbeq, i64_w, -List.getD_eq_getElem?_getD, e0_]) ?_
      refine rw_val (v := .slice A1 l.length c1) (w' := w_L23) rfl rfl rfl rfl rfl ?_
      refine rw_val (v := .int .i64 ((l.length : Nat) : Int)) (w' := w_L23) rfl rfl rfl rfl (by simp [go_sem, sEv, sLook, nbeq, i64_w, -List.getD_eq_getElem?_getD]) ?_
      refine rw_val (v := .bool (c.cnt != ((l.length : Nat) : Int))) (w' := w_L23) rfl rfl rfl rfl (by simp [go_sem, sEv, sLook, nbeq, i64_w, -List.getD_eq_getElem?_getD]) ?_
      refine rw_val (v := .bool (c.cnt != ((l.length : Nat) : Int))) (w' := w_L23) rfl rfl rfl rfl rfl ?_
      have hq29 : (c.cnt != ((l.length : Nat) : Int)) = false := by rw [hI13.cnt]; simp
      refine rw_on (c := (c.cnt != ((l.length : Nat) : Int))) rfl rfl rfl (by first | (rw [hq29]; rfl) | simp [hq29]) ?_
      refine rw_val (v := .int .i64 n) (w' := w_L23) rfl rfl rfl rfl rfl ?_
      refine rw_on (c := (c.cnt != ((l.length : Nat) : Int))) rfl rfl rfl (by first | (rw [hq29]; rfl) | simp [hq29]) ?_
      refine rw_val (v := .slice A1 l.length c1) (w' := w_L23) rfl rfl rfl rfl rfl ?_
      refine rw_on (c := (c.cnt != ((l.length : Nat) : Int))) rfl rfl rfl (by first | (rw [hq29]; rfl) | simp [hq29]) ?_
      refine rw_val (v := .int .i64 ((l.length : Nat) : Int)) (w' := w_L23) rfl rfl rfl rfl (by simp [go_sem, sEv, sLook, nbeq, i64_w, -List.getD_eq_getElem?_getD]) ?_
      refine rw_on (c := (c.cnt != ((l.length : Nat) : Int))) rfl rfl rfl (by first | (rw [hq29]; rfl) | simp [hq29]) ?_
      refine rw_val (v := .bool (n != ((l.length : Nat) : Int))) (w' := w_L23) rfl rfl rfl rfl (by simp [go_sem, sEv, sLook, nbeq, i64_w, -List.getD_eq_getElem?_getD]) ?_
      refine rw_val (v := .bool (n != ((l.length : Nat) : Int))) (w' := w_L23) rfl rfl rfl rfl (by first | (simp [go_sem, sEv, sLook, nbeq, i64_w, -List.getD_eq_getElem?_getD, hq29]; done) | (rw [hq29]; simp [go_sem, sEv, sLook, nbeq, i64_w, -List.getD_eq_getElem?_getD]; done) | (simp [go_sem, sEv, sLook, nbeq, i64_w, -List.getD_eq_getElem?_getD] <;> omega) | (simp [go_sem, sEv, sLook, nbeq, i64_w, -List.getD_eq_getElem?_getD]; intro h_; exact absurd (by omega) h_)) ?_
      refine rw_end ?_
      refine w_weaken (G' := [(0, .slice A1 l.length c1), (3, .pointer (some ⟨g14, 0, none⟩)), (40, .bool (n != ((l.length : Nat) : Int)))]) ⟨rfl, rfl, rfl, trivial⟩ ?_
      have hq30 : (n != ((l.length : Nat) : Int)) = false := by have ej_ : j = 65 := (by omega); subst ej_; rw [hf25, hsum_]; simp
      refine w_cond_f rfl rfl hq30 ?_
      refine w_skip ?_
      refine w_seq ?_
      refine w_region ?_
      refine rw_val (v := .slice A1 l.length c1) (w' := w_L23) rfl rfl rfl rfl rfl ?_
      refine rw_val (v := .int .i64 ((l.length : Nat) : Int)) (w' := w_L23) rfl rfl rfl rfl (by simp [go_sem, sEv, sLook, nbeq, i64_w, -List.getD_eq_getElem?_getD]) ?_
      refine rw_val (v := .bool (((l.length : Nat) : Int) == 0)) (w' := w_L23) rfl rfl rfl rfl (by simp [go_sem, sEv, sLook, nbeq, i64_w, -List.getD_eq_getElem?_getD]) ?_
      refine rw_val (v := .slice A1 l.length c1) (w' := w_L23) rfl rfl rfl rfl rfl ?_
      refine rw_val (v := .int .i64 ((l.length : Nat) : Int)) (w' := w_L23) rfl rfl rfl rfl (by simp [go_sem, sEv, sLook, nbeq, i64_w, -List.getD_eq_getElem?_getD]) ?_
      refine rw_val (v := .bool (((l.length : Nat) : Int) == 0)) (w' := w_L23) rfl rfl rfl rfl (by simp [go_sem, sEv, sLook, nbeq, i64_w, -List.getD_eq_getElem?_getD]) ?_
      refine rw_val (v := .slice A1 l.length c1) (w' := w_L23) rfl rfl rfl rfl rfl ?_
      refine rw_val (v := .int .i64 ((l.length : Nat) : Int)) (w' := w_L23) rfl rfl rfl rfl (by simp [go_sem, sEv, sLook, nbeq, i64_w, -List.getD_eq_getElem?_getD]) ?_
      refine rw_val (v := .bool (((l.length : Nat) : Int) == 0)) (w' := w_L23) rfl rfl rfl rfl (by simp [go_sem, sEv, sLook, nbeq, i64_w, -List.getD_eq_getElem?_getD]) ?_
      refine rw_val (v := .bool (((l.length : Nat) : Int) == 0)) (w' := w_L23) rfl rfl rfl rfl rfl ?_
      refine rw_val (v := .bool (((l.length : Nat) : Int) == 0)) (w' := w_L23) rfl rfl rfl rfl rfl ?_
      refine rw_val (v := .bool (((l.length : Nat) : Int) == 0)) (w' := w_L23) rfl rfl rfl rfl rfl ?_
      refine rw_end ?_
      refine w_weaken (G' := [(0, .slice A1 l.length c1), (3, .pointer (some ⟨g14, 0, none⟩)), (7, .bool (((l.length : Nat) : Int) == 0)), (8, .bool (((l.length : Nat) : Int) == 0)), (9, .bool (((l.length : Nat) : Int) == 0))]) ⟨rfl, rfl, rfl, rfl, rfl, trivial⟩ ?_
      refine w_seq ?_
      refine w_seq ?_
      refine w_region ?_
      refine rw_val (v := .slice A1 l.length c1) (w' := w_L23) rfl rfl rfl rfl rfl ?_
      refine rw_val (v := .int .i64 ((l.length : Nat) : Int)) (w' := w_L23) rfl rfl rfl rfl (by simp [go_sem, sEv, sLook, nbeq, i64_w, -List.getD_eq_getElem?_getD]) ?_
      refine rw_val (v := .int .i64 0) (w' := w_L23) rfl rfl rfl rfl rfl ?_
      refine rw_end ?_
      refine w_block ?_
      refine w_loop (fun m_ G W_ => ∃ (j : Nat) (lo : Bool) (hi : Bool) (la : Bool), j + m_ = l.length ∧ Below w.heap.size w W_ ∧ (lo = ((((l.length : Nat) : Int) == 0) || (l.take j).any (fun s => s.2.2.2.2.2 == c.mn))) ∧ (hi = ((((l.length : Nat) : Int) == 0) || (l.take j).any (fun s => s.2.2.2.2.2 == c.mx))) ∧ (la = ((((l.length : Nat) : Int) == 0) || (l.take j).any (fun s => (c.t == s.2.2.2.1 && (c.src == s.1 && (c.seq == s.2.1 && c.v == s.2.2.2.2.2)))))) ∧ (Blk W_ g14 31 (carr c)) ∧ G = [(3, .pointer (some ⟨g14, 0, none⟩)), (7, .bool lo), (8, .bool hi), (9, .bool la), (50, .slice A1 l.length c1), (51, .int .i64 ((l.length : Nat) : Int)), (52, .int .i64 ((j : Nat) : Int))]) l.length [(3, .pointer (some ⟨g14, 0, none⟩)), (7, .bool (((l.length : Nat) : Int) == 0)), (8, .bool (((l.length : Nat) : Int) == 0)), (9, .bool (((l.length : Nat) : Int) == 0)), (50, .slice A1 l.length c1), (51, .int .i64 ((l.length : Nat) : Int)), (52, .int .i64 0)] ⟨0, (((l.length : Nat) : Int) == 0), (((l.length : Nat) : Int) == 0), (((l.length : Nat) : Int) == 0), by omega, hB_L23, (by simp), (by simp), (by simp), hf26, rfl⟩ ⟨rfl, rfl, rfl, rfl, rfl, rfl, rfl, trivial⟩ ?_
      rintro m_ G w_L31 ⟨j, lo, hi, la, hp32, hB_L31, hf33, hf34, hf35, hf36, rfl⟩
      have hs_w_L31 := hB_L31.size
      have hlt3_ := hf36.lt
      refine w_seq ?_
      refine w_region ?_
      refine rw_val (v := .bool (decide (((j : Nat) : Int) < ((l.length : Nat) : Int)))) (w' := w_L31) rfl rfl rfl rfl (by simp [go_sem, sEv, sLook, nbeq, i64_w, -List.getD_eq_getElem?_getD]) ?_
      refine rw_end ?_
      refine w_seq ?_
      refine w_cond rfl rfl (fun cJ => ?_) (fun cJ => ?_)
      · have l37 : (((j : Nat) : Int) < ((l.length : Nat) : Int)) := of_decide_eq_true cJ
        refine w_skip ?_
        refine w_seq ?_
        refine w_block ?_
        refine w_seq ?_
        refine w_region ?_
        obtain ⟨ad38, hA39, hc40⟩ := flat_at (Kd.C_below hl hB_L31) (0, 0, 0, 0, 0, 0) j (by first | omega | decide)
        subst hA39
        have he41 : w_L31.cell? (ad38.add (j * 6)) = some (.int .i64 ((l.getD j (0, 0, 0, 0, 0, 0)).1)) := cell_0 (hc40 0 _ rfl)
        have he42 : w_L31.cell? ⟨(ad38.add (j * 6)).block, (ad38.add (j * 6)).off + 1, none⟩ = some (.int .i64 ((l.getD j (0, 0, 0, 0, 0, 0)).2.1)) := cell_j (hc40 1 _ rfl)
        have he43 : w_L31.cell? ⟨(ad38.add (j * 6)).block, (ad38.add (j * 6)).off + 2, none⟩ = some (.int .i64 ((l.getD j (0, 0, 0, 0, 0, 0)).2.2.1)) := cell_j (hc40 2 _ rfl)
        have he44 : w_L31.cell? ⟨(ad38.add (j * 6)).block, (ad38.add (j * 6)).off + 3, none⟩ = some (.int .i64 ((l.getD j (0, 0, 0, 0, 0, 0)).2.2.2.1)) := cell_j (hc40 3 _ rfl)
        have he45 : w_L31.cell? ⟨(ad38.add (j * 6)).block, (ad38.add (j * 6)).off + 4, none⟩ = some (.int .i64 ((l.getD j (0, 0, 0, 0, 0, 0)).2.2.2.2.1)) := cell_j (hc40 4 _ rfl)
        have he46 : w_L31.cell? ⟨(ad38.add (j * 6)).block, (ad38.add (j * 6)).off + 5, none⟩ = some (.int .i64 ((l.getD j (0, 0, 0, 0, 0, 0)).2.2.2.2.2)) := cell_j (hc40 5 _ rfl)
        refine rw_val (v := .pointer (some (ad38.add (j * 6)))) (w' := w_L31) rfl rfl rfl rfl (run_as (run_at_k (P := Try.prog) (e := 46) (sz := 6) (by kernel_rfl) (by kernel_rfl) j (by first | omega | decide) _)) ?_
        refine rw_val (v := .agg #[.int .i64 ((l.getD j (0, 0, 0, 0, 0, 0)).1), .int .i64 ((l.getD j (0, 0, 0, 0, 0, 0)).2.1), .int .i64 ((l.getD j (0, 0, 0, 0, 0, 0)).2.2.1), .int .i64 ((l.getD j (0, 0, 0, 0, 0, 0)).2.2.2.1), .int .i64 ((l.getD j (0, 0, 0, 0, 0, 0)).2.2.2.2.1), .int .i64 ((l.getD j (0, 0, 0, 0, 0, 0)).2.2.2.2.2)]) (w' := w_L31) rfl rfl rfl rfl (by have e0_ := cellOn he41 (Below.refl _ _); have e1_ := cellOn he42 (Below.refl _ _); have e2_ := cellOn he43 (Below.refl _ _); have e3_ := cellOn he44 (Below.refl _ _); have e4_ := cellOn he45 (Below.refl _ _); have e5_ := cellOn he46 (Below.refl _ _); simp [go_sem, sEv, sLook, nbeq, i64_w, -List.getD_eq_getElem?_getD, e0_, e1_, e2_, e3_, e4_, e5_, Try.underlying46]) ?_
        refine rw_new (cs := #[.int .i64 0, .int .i64 0, .int .i64 0, .int .i64 0, .int .i64 0, .int .i64 0]) (t := 46) (fun g => .pointer (some ⟨g, 0, none⟩)) rfl rfl rfl rfl (by kernel_rfl) ?_
        intro g47 w48 hg52 hz51 hb49 hk50
        have hs_w48 := hb49.size
        have hb56 := hk50
        refine rw_store (g := g47) (i := 0) (l := [.int .i64 ((l.getD j (0, 0, 0, 0, 0, 0)).1), .int .i64 ((l.getD j (0, 0, 0, 0, 0, 0)).2.1), .int .i64 ((l.getD j (0, 0, 0, 0, 0, 0)).2.2.1), .int .i64 ((l.getD j (0, 0, 0, 0, 0, 0)).2.2.2.1), .int .i64 ((l.getD j (0, 0, 0, 0, 0, 0)).2.2.2.2.1), .int .i64 ((l.getD j (0, 0, 0, 0, 0, 0)).2.2.2.2.2)]) (cs' := #[.int .i64 ((l.getD j (0, 0, 0, 0, 0, 0)).1), .int .i64 ((l.getD j (0, 0, 0, 0, 0, 0)).2.1), .int .i64 ((l.getD j (0, 0, 0, 0, 0, 0)).2.2.1), .int .i64 ((l.getD j (0, 0, 0, 0, 0, 0)).2.2.2.1), .int .i64 ((l.getD j (0, 0, 0, 0, 0, 0)).2.2.2.2.1), .int .i64 ((l.getD j (0, 0, 0, 0, 0, 0)).2.2.2.2.2)]) rfl rfl rfl hb56 rfl (by have e0_ := hb56.cellv (i := 0) (v := (.int .i64 0 : Value)) rfl; have f0_ := hb56.frozen 0; have e1_ := hb56.cellv (i := 1) (v := (.int .i64 0 : Value)) rfl; have f1_ := hb56.frozen 1; have e2_ := hb56.cellv (i := 2) (v := (.int .i64 0 : Value)) rfl; have f2_ := hb56.frozen 2; have e3_ := hb56.cellv (i := 3) (v := (.int .i64 0 : Value)) rfl; have f3_ := hb56.frozen 3; have e4_ := hb56.cellv (i := 4) (v := (.int .i64 0 : Value)) rfl; have f4_ := hb56.frozen 4; have e5_ := hb56.cellv (i := 5) (v := (.int .i64 0 : Value)) rfl; have f5_ := hb56.frozen 5; simp [go_sem, sEv, sLook, nbeq, i64_w, -List.getD_eq_getElem?_getD, putCells, e0_, f0_, e1_, f1_, e2_, f2_, e3_, f3_, e4_, f4_, e5_, f5_, Try.underlying46]) ?_
        intro w53 hk54 hk55
        have hs_w53 := hk54.size
        refine rw_end ?_
        refine w_weaken (G' := [(3, .pointer (some ⟨g14, 0, none⟩)), (7, .bool lo), (8, .bool hi), (9, .bool la), (11, .pointer (some ⟨g47, 0, none⟩)), (50, .slice (some ad38) l.length c1), (51, .int .i64 ((l.length : Nat) : Int)), (52, .int .i64 ((j : Nat) : Int))]) ⟨rfl, rfl, rfl, rfl, rfl, rfl, rfl, rfl, trivial⟩ ?_
        refine w_seq ?_
        refine w_region ?_
        refine rw_val (v := .pointer (some ⟨g47, 1, none⟩)) (w' := w53) rfl rfl rfl rfl (by simp [go_sem, sEv, sLook, nbeq, i64_w, -List.getD_eq_getElem?_getD, Try.underlying46]) ?_
        refine rw_val (v := .pointer (some ⟨g47, 5, none⟩)) (w' := w53) rfl rfl rfl rfl (by simp [go_sem, sEv, sLook, nbeq, i64_w, -List.getD_eq_getElem?_getD, Try.underlying44]) ?_
        refine rw_val (v := .int .i64 ((l.getD j (0, 0, 0, 0, 0, 0)).2.2.2.2.2)) (w' := w53) rfl rfl rfl rfl (by have eb_ := hk55; have e0_ := eb_.cellv (i := 5) (v := (.int .i64 ((l.getD j (0, 0, 0, 0, 0, 0)).2.2.2.2.2) : Value)) rfl; simp [go_sem, sEv, sLook, nbeq, i64_w, -List.getD_eq_getElem?_getD, e0_]) ?_
        refine rw_val (v := .int .i64 ((l.getD j (0, 0, 0, 0, 0, 0)).2.2.2.2.2)) (w' := w53) rfl rfl rfl rfl rfl ?_
        refine rw_end ?_
        refine w_weaken (G' := [(3, .pointer (some ⟨g14, 0, none⟩)), (7, .bool lo), (8, .bool hi), (9, .bool la), (11, .pointer (some ⟨g47, 0, none⟩)), (12, .int .i64 ((l.getD j (0, 0, 0, 0, 0, 0)).2.2.2.2.2)), (50, .slice (some ad38) l.length c1), (51, .int .i64 ((l.length : Nat) : Int)), (52, .int .i64 ((j : Nat) : Int))]) ⟨rfl, rfl, rfl, rfl, rfl, rfl, rfl, rfl, rfl, trivial⟩ ?_
        refine w_seq ?_
        refine w_seq ?_
        refine w_region ?_
        refine rw_val (v := .int .i64 ((l.getD j (0, 0, 0, 0, 0, 0)).2.2.2.2.2)) (w' := w53) rfl rfl rfl rfl rfl ?_
        refine rw_val (v := .pointer (some ⟨g14, 3, none⟩)) (w' := w53) rfl rfl rfl rfl (by simp [go_sem, sEv, sLook, nbeq, i64_w, -List.getD_eq_getElem?_getD, Try.underlying31]) ?_
        refine rw_val (v := .int .i64 c.mn) (w' := w53) rfl rfl rfl rfl (by have eb_ := ((hf36.on hb49).keep hk54 (by omega)); have e0_ := eb_.cellv (v := .int .i64 c.mn) (cA3 c); simp [go_sem, sEv, sLook, nbeq, i64_w, -List.getD_eq_getElem?_getD, e0_]) ?_
        refine rw_val (v := .bool (decide (((l.getD j (0, 0, 0, 0, 0, 0)).2.2.2.2.2) < c.mn))) (w' := w53) rfl rfl rfl rfl (by simp [go_sem, sEv, sLook, nbeq, i64_w, -List.getD_eq_getElem?_getD]) ?_
        refine rw_val (v := .bool (decide (((l.getD j (0, 0, 0, 0, 0, 0)).2.2.2.2.2) < c.mn))) (w' := w53) rfl rfl rfl rfl rfl ?_
        have hq57 : (decide (((l.getD j (0, 0, 0, 0, 0, 0)).2.2.2.2.2) < c.mn)) = false := by exact decide_eq_false (by have h_ := hI13.mn _ (getD_mem l j (0, 0, 0, 0, 0, 0) (by omega)); omega)
        refine rw_on (c := decide (((l.getD j (0, 0, 0, 0, 0, 0)).2.2.2.2.2) < c.mn)) rfl rfl rfl (by first | (rw [hq57]; rfl) | simp [hq57]) ?_
        refine rw_val (v := .int .i64 ((l.getD j (0, 0, 0, 0, 0, 0)).2.2.2.2.2)) (w' := w53) rfl rfl rfl rfl rfl ?_
        refine rw_on (c := decide (((l.getD j (0, 0, 0, 0, 0, 0)).2.2.2.2.2) < c.mn)) rfl rfl rfl (by first | (rw [hq57]; rfl) | simp [hq57]) ?_
        refine rw_val (v := .pointer (some ⟨g14, 4, none⟩)) (w' := w53) rfl rfl rfl rfl (by simp [go_sem, sEv, sLook, nbeq, i64_w, -List.getD_eq_getElem?_getD, Try.underlying31]) ?_
        refine rw_on (c := decide (((l.getD j (0, 0, 0, 0, 0, 0)).2.2.2.2.2) < c.mn)) rfl rfl rfl (by first | (rw [hq57]; rfl) | simp [hq57]) ?_
        refine rw_val (v := .int .i64 c.mx) (w' := w53) rfl rfl rfl rfl (by have eb_ := ((hf36.on hb49).keep hk54 (by omega)); have e0_ := eb_.cellv (v := .int .i64 c.mx) (cA4 c); simp [go_sem, sEv, sLook, nbeq, i64_w, -List.getD_eq_getElem?_getD, e0_]) ?_
        refine rw_on (c := decide (((l.getD j (0, 0, 0, 0, 0, 0)).2.2.2.2.2) < c.mn)) rfl rfl rfl (by first | (rw [hq57]; rfl) | simp [hq57]) ?_
        refine rw_val (v := .bool (decide (c.mx < ((l.getD j (0, 0, 0, 0, 0, 0)).2.2.2.2.2)))) (w' := w53) rfl rfl rfl rfl (by simp [go_sem, sEv, sLook, nbeq, i64_w, -List.getD_eq_getElem?_getD]) ?_
        refine rw_val (v := .bool (decide (c.mx < ((l.getD j (0, 0, 0, 0, 0, 0)).2.2.2.2.2)))) (w' := w53) rfl rfl rfl rfl (by first | (simp [go_sem, sEv, sLook, nbeq, i64_w, -List.getD_eq_getElem?_getD, hq57]; done) | (rw [hq57]; simp [go_sem, sEv, sLook, nbeq, i64_w, -List.getD_eq_getElem?_getD]; done) | (simp [go_sem, sEv, sLook, nbeq, i64_w, -List.getD_eq_getElem?_getD] <;> omega) | (simp [go_sem, sEv, sLook, nbeq, i64_w, -List.getD_eq_getElem?_getD]; intro h_; exact absurd (by omega) h_)) ?_
        refine rw_val (v := .bool (decide (c.mx < ((l.getD j (0, 0, 0, 0, 0, 0)).2.2.2.2.2)))) (w' := w53) rfl rfl rfl rfl rfl ?_
        have hq58 : (decide (c.mx < ((l.getD j (0, 0, 0, 0, 0, 0)).2.2.2.2.2))) = false := by exact decide_eq_false (by have h_ := hI13.mx _ (getD_mem l j (0, 0, 0, 0, 0, 0) (by omega)); omega)
        refine rw_on (c := decide (c.mx < ((l.getD j (0, 0, 0, 0, 0, 0)).2.2.2.2.2))) rfl rfl rfl (by first | (rw [hq58]; rfl) | simp [hq58]) ?_
        refine rw_val (v := .pointer (some ⟨g47, 1, none⟩)) (w' := w53) rfl rfl rfl rfl (by simp [go_sem, sEv, sLook, nbeq, i64_w, -List.getD_eq_getElem?_getD, Try.underlying46]) ?_
        refine rw_on (c := decide (c.mx < ((l.getD j (0, 0, 0, 0, 0, 0)).2.2.2.2.2))) rfl rfl rfl (by first | (rw [hq58]; rfl) | simp [hq58]) ?_
        refine rw_val (v := .pointer (some ⟨g47, 3, none⟩)) (w' := w53) rfl rfl rfl rfl (by simp [go_sem, sEv, sLook, nbeq, i64_w, -List.getD_eq_getElem?_getD, Try.underlying44]) ?_
        refine rw_on (c := decide (c.mx < ((l.getD j (0, 0, 0, 0, 0, 0)).2.2.2.2.2))) rfl rfl rfl (by first | (rw [hq58]; rfl) | simp [hq58]) ?_
        refine rw_val (v := .int .i64 ((l.getD j (0, 0, 0, 0, 0, 0)).2.2.2.1)) (w' := w53) rfl rfl rfl rfl (by have eb_ := hk55; have e0_ := eb_.cellv (i := 3) (v := (.int .i64 ((l.getD j (0, 0, 0, 0, 0, 0)).2.2.2.1) : Value)) rfl; simp [go_sem, sEv, sLook, nbeq, i64_w, -List.getD_eq_getElem?_getD, e0_]) ?_
        refine rw_on (c := decide (c.mx < ((l.getD j (0, 0, 0, 0, 0, 0)).2.2.2.2.2))) rfl rfl rfl (by first | (rw [hq58]; rfl) | simp [hq58]) ?_
        refine rw_val (v := .pointer (some ⟨g14, 5, none⟩)) (w' := w53) rfl rfl rfl rfl (by simp [go_sem, sEv, sLook, nbeq, i64_w, -List.getD_eq_getElem?_getD, Try.underlying31]) ?_
        refine rw_on (c := decide (c.mx < ((l.getD j (0, 0, 0, 0, 0, 0)).2.2.2.2.2))) rfl rfl rfl (by first | (rw [hq58]; rfl) | simp [hq58]) ?_
        refine rw_val (v := .pointer (some ⟨g14, 5, none⟩)) (w' := w53) rfl rfl rfl rfl (by simp [go_sem, sEv, sLook, nbeq, i64_w, -List.getD_eq_getElem?_getD, Try.underlying28]) ?_
        refine rw_on (c := decide (c.mx < ((l.getD j (0, 0, 0, 0, 0, 0)).2.2.2.2.2))) rfl rfl rfl (by first | (rw [hq58]; rfl) | simp [hq58]) ?_
        refine rw_val (v := .int .i64 c.t) (w' := w53) rfl rfl rfl rfl (by have eb_ := ((hf36.on hb49).keep hk54 (by omega)); have e0_ := eb_.cellv (v := .int .i64 c.t) (cA5 c); simp [go_sem, sEv, sLook, nbeq, i64_w, -List.getD_eq_getElem?_getD, e0_]) ?_
        refine rw_on (c := decide (c.mx < ((l.getD j (0, 0, 0, 0, 0, 0)).2.2.2.2.2))) rfl rfl rfl (by first | (rw [hq58]; rfl) | simp [hq58]) ?_
        refine rw_val (v := .bool (decide (c.t < ((l.getD j (0, 0, 0, 0, 0, 0)).2.2.2.1)))) (w' := w53) rfl rfl rfl rfl (by simp [go_sem, sEv, sLook, nbeq, i64_w, -List.getD_eq_getElem?_getD]) ?_
        refine rw_val (v := .bool (decide (c.t < ((l.getD j (0, 0, 0, 0, 0, 0)).2.2.2.1)))) (w' := w53) rfl rfl rfl rfl (by first | (simp [go_sem, sEv, sLook, nbeq, i64_w, -List.getD_eq_getElem?_getD, hq58]; done) | (rw [hq58]; simp [go_sem, sEv, sLook, nbeq, i64_w, -List.getD_eq_getElem?_getD]; done) | (simp [go_sem, sEv, sLook, nbeq, i64_w, -List.getD_eq_getElem?_getD] <;> omega) | (simp [go_sem, sEv, sLook, nbeq, i64_w, -List.getD_eq_getElem?_getD]; intro h_; exact absurd (by omega) h_)) ?_
        refine rw_end ?_
        refine w_weaken (G' := [(3, .pointer (some ⟨g14, 0, none⟩)), (7, .bool lo), (8, .bool hi), (9, .bool la), (11, .pointer (some ⟨g47, 0, none⟩)), (12, .int .i64 ((l.getD j (0, 0, 0, 0, 0, 0)).2.2.2.2.2)), (50, .slice (some ad38) l.length c1), (51, .int .i64 ((l.length : Nat) : Int)), (52, .int .i64 ((j : Nat) : Int)), (77, .bool (decide (c.t < ((l.getD j (0, 0, 0, 0, 0, 0)).2.2.2.1))))]) ⟨rfl, rfl, rfl, rfl, rfl, rfl, rfl, rfl, rfl, rfl, trivial⟩ ?_
        have hq59 : (decide (c.t < ((l.getD j (0, 0, 0, 0, 0, 0)).2.2.2.1))) = false := by exact decide_eq_false (by have h_ := hI13.t _ (getD_mem l j (0, 0, 0, 0, 0, 0) (by omega)); omega)
        refine w_cond_f rfl rfl hq59 ?_
        refine w_skip ?_
        refine w_seq ?_
        rcases bcase lo with cLo | cLo
        · rcases bcase hi with cHi | cHi
          · refine w_drawk (M := [0, 1, 3, 3, 11, 31, 63, 0, 131, 387, 387, 1411, 3971, 8067, 511, 32767]) (ss := [Is (.bool lo), Is (.bool lo), Is (.int .i64 ((l.getD j (0, 0, 0, 0, 0, 0)).2.2.2.2.2)), Is (.pointer (some ⟨g14, 3, none⟩)), Is (.int .i64 c.mn), Is (.bool (((l.getD j (0, 0, 0, 0, 0, 0)).2.2.2.2.2) == c.mn)), Is (.bool (((l.getD j (0, 0, 0, 0, 0, 0)).2.2.2.2.2) == c.mn)), Is (.bool hi), Is (.bool hi), Is (.int .i64 ((l.getD j (0, 0, 0, 0, 0, 0)).2.2.2.2.2)), Is (.pointer (some ⟨g14, 4, none⟩)), Is (.int .i64 c.mx), Is (.bool (((l.getD j (0, 0, 0, 0, 0, 0)).2.2.2.2.2) == c.mx)), Is (.bool (((l.getD j (0, 0, 0, 0, 0, 0)).2.2.2.2.2) == c.mx)), Is (.bool (((l.getD j (0, 0, 0, 0, 0, 0)).2.2.2.2.2) == c.mn))]) 15 rfl (by decide +kernel) ?_
            refine t_is (.bool lo) rfl rfl rfl rfl (fun W_ hW_ F_ => rfl) ?_
            refine t_is (.bool lo) rfl rfl rfl rfl (fun W_ hW_ F_ => rfl) ?_
            refine t_gis (c := lo) (.int .i64 ((l.getD j (0, 0, 0, 0, 0, 0)).2.2.2.2.2)) rfl rfl rfl (by first | (rw [cLo]; rfl) | simp [cLo]) rfl rfl rfl (fun W_ hW_ F_ => rfl) ?_
            refine t_gis (c := lo) (.pointer (some ⟨g14, 3, none⟩)) rfl rfl rfl (by first | (rw [cLo]; rfl) | simp [cLo]) rfl rfl rfl (fun W_ hW_ F_ => by simp [go_sem, sEv, sLook, nbeq, i64_w, -List.getD_eq_getElem?_getD, Try.underlying31]) ?_
            refine t_gis (c := lo) (.int .i64 c.mn) rfl rfl rfl (by first | (rw [cLo]; rfl) | simp [cLo]) rfl rfl rfl (fun W_ hW_ F_ => (by have eb_ := (((hf36.on hb49).keep hk54 (by omega)).on (below_of_drew hW_)); have e0_ := eb_.cellv (v := .int .i64 c.mn) (cA3 c); simp [go_sem, sEv, sLook, nbeq, i64_w, -List.getD_eq_getElem?_getD, e0_])) ?_
            refine t_gis (c := lo) (.bool (((l.getD j (0, 0, 0, 0, 0, 0)).2.2.2.2.2) == c.mn)) rfl rfl rfl (by first | (rw [cLo]; rfl) | simp [cLo]) rfl rfl rfl (fun W_ hW_ F_ => by simp [go_sem, sEv, sLook, nbeq, i64_w, -List.getD_eq_getElem?_getD]) ?_
            refine t_is (.bool (((l.getD j (0, 0, 0, 0, 0, 0)).2.2.2.2.2) == c.mn)) rfl rfl rfl rfl (fun W_ hW_ F_ => by first | (simp [go_sem, sEv, sLook, nbeq, i64_w, -List.getD_eq_getElem?_getD, cLo]; done) | (rw [cLo]; simp [go_sem, sEv, sLook, nbeq, i64_w, -List.getD_eq_getElem?_getD]; done) | (simp [go_sem, sEv, sLook, nbeq, i64_w, -List.getD_eq_getElem?_getD] <;> omega) | (simp [go_sem, sEv, sLook, nbeq, i64_w, -List.getD_eq_getElem?_getD]; intro h_; exact absurd (by omega) h_)) ?_
            refine t_is (.bool hi) rfl rfl rfl rfl (fun W_ hW_ F_ => rfl) ?_
            refine t_is (.bool hi) rfl rfl rfl rfl (fun W_ hW_ F_ => rfl) ?_
            refine t_gis (c := hi) (.int .i64 ((l.getD j (0, 0, 0, 0, 0, 0)).2.2.2.2.2)) rfl rfl rfl (by first | (rw [cHi]; rfl) | simp [cHi]) rfl rfl rfl (fun W_ hW_ F_ => rfl) ?_
            refine t_gis (c := hi) (.pointer (some ⟨g14, 4, none⟩)) rfl rfl rfl (by first | (rw [cHi]; rfl) | simp [cHi]) rfl rfl rfl (fun W_ hW_ F_ => by simp [go_sem, sEv, sLook, nbeq, i64_w, -List.getD_eq_getElem?_getD, Try.underlying31]) ?_
            refine t_gis (c := hi) (.int .i64 c.mx) rfl rfl rfl (by first | (rw [cHi]; rfl) | simp [cHi]) rfl rfl rfl (fun W_ hW_ F_ => (by have eb_ := (((hf36.on hb49).keep hk54 (by omega)).on (below_of_drew hW_)); have e0_ := eb_.cellv (v := .int .i64 c.mx) (cA4 c); simp [go_sem, sEv, sLook, nbeq, i64_w, -List.getD_eq_getElem?_getD, e0_])) ?_
            refine t_gis (c := hi) (.bool (((l.getD j (0, 0, 0, 0, 0, 0)).2.2.2.2.2) == c.mx)) rfl rfl rfl (by first | (rw [cHi]; rfl) | simp [cHi]) rfl rfl rfl (fun W_ hW_ F_ => by simp [go_sem, sEv, sLook, nbeq, i64_w, -List.getD_eq_getElem?_getD]) ?_
            refine t_is (.bool (((l.getD j (0, 0, 0, 0, 0, 0)).2.2.2.2.2) == c.mx)) rfl rfl rfl rfl (fun W_ hW_ F_ => by first | (simp [go_sem, sEv, sLook, nbeq, i64_w, -List.getD_eq_getElem?_getD, cHi]; done) | (rw [cHi]; simp [go_sem, sEv, sLook, nbeq, i64_w, -List.getD_eq_getElem?_getD]; done) | (simp [go_sem, sEv, sLook, nbeq, i64_w, -List.getD_eq_getElem?_getD] <;> omega) | (simp [go_sem, sEv, sLook, nbeq, i64_w, -List.getD_eq_getElem?_getD]; intro h_; exact absurd (by omega) h_)) ?_
            refine t_is (.bool (((l.getD j (0, 0, 0, 0, 0, 0)).2.2.2.2.2) == c.mn)) rfl rfl rfl rfl (fun W_ hW_ F_ => rfl) ?_
            refine t_tail ?_
            intro w60 hb61_ F62
            have hb61 := below_of_drew hb61_
            have hs_w60 := hb61.size
            refine rw_val (v := .bool (((l.getD j (0, 0, 0, 0, 0, 0)).2.2.2.2.2) == c.mx)) (w' := w60) rfl rfl rfl rfl rfl ?_
            refine rw_end ?_
            refine w_weaken (G' := [(3, .pointer (some ⟨g14, 0, none⟩)), (7, .bool (((l.getD j (0, 0, 0, 0, 0, 0)).2.2.2.2.2) == c.mn)), (8, .bool (((l.getD j (0, 0, 0, 0, 0, 0)).2.2.2.2.2) == c.mx)), (9, .bool la), (11, .pointer (some ⟨g47, 0, none⟩)), (12, .int .i64 ((l.getD j (0, 0, 0, 0, 0, 0)).2.2.2.2.2)), (50, .slice (some ad38) l.length c1), (51, .int .i64 ((l.length : Nat) : Int)), (52, .int .i64 ((j : Nat) : Int))]) ⟨rfl, rfl, rfl, rfl, rfl, rfl, rfl, rfl, rfl, trivial⟩ ?_
            refine w_region ?_
            refine rw_val (v := .bool la) (w' := w60) rfl rfl rfl rfl rfl ?_
            refine rw_val (v := .bool la) (w' := w60) rfl rfl rfl rfl rfl ?_
            rcases bcase la with cLa | cLa
            · refine rw_on (c := la) rfl rfl rfl (by first | (rw [cLa]; rfl) | simp [cLa]) ?_
              refine rw_val (v := .pointer (some ⟨g14, 5, none⟩)) (w' := w60) rfl rfl rfl rfl (by simp [go_sem, sEv, sLook, nbeq, i64_w, -List.getD_eq_getElem?_getD, Try.underlying31]) ?_
              refine rw_on (c := la) rfl rfl rfl (by first | (rw [cLa]; rfl) | simp [cLa]) ?_
              refine rw_val (v := .agg #[.int .i64 c.t, .int .i64 c.src, .int .i64 c.seq, .int .i64 c.v]) (w' := w60) rfl rfl rfl rfl (by have eb_ := (((hf36.on hb49).keep hk54 (by omega)).on hb61); have e0_ := eb_.cellv (v := .int .i64 c.t) (cA5 c); have e1_ := eb_.cellv (v := .int .i64 c.src) (cA6 c); have e2_ := eb_.cellv (v := .int .i64 c.seq) (cA7 c); have e3_ := eb_.cellv (v := .int .i64 c.v) (cA8 c); simp [go_sem, sEv, sLook, nbeq, i64_w, -List.getD_eq_getElem?_getD, e0_, e1_, e2_, e3_, Try.underlying28]) ?_
              refine rw_on (c := la) rfl rfl rfl (by first | (rw [cLa]; rfl) | simp [cLa]) ?_
              refine rw_val (v := .pointer (some ⟨g47, 1, none⟩)) (w' := w60) rfl rfl rfl rfl (by simp [go_sem, sEv, sLook, nbeq, i64_w, -List.getD_eq_getElem?_getD, Try.underlying46]) ?_
              refine rw_on (c := la) rfl rfl rfl (by first | (rw [cLa]; rfl) | simp [cLa]) ?_
              refine rw_val (v := .pointer (some ⟨g47, 3, none⟩)) (w' := w60) rfl rfl rfl rfl (by simp [go_sem, sEv, sLook, nbeq, i64_w, -List.getD_eq_getElem?_getD, Try.underlying44]) ?_
              refine rw_on (c := la) rfl rfl rfl (by first | (rw [cLa]; rfl) | simp [cLa]) ?_
              refine rw_val (v := .int .i64 ((l.getD j (0, 0, 0, 0, 0, 0)).2.2.2.1)) (w' := w60) rfl rfl rfl rfl (by have eb_ := (hk55.on hb61); have e0_ := eb_.cellv (i := 3) (v := (.int .i64 ((l.getD j (0, 0, 0, 0, 0, 0)).2.2.2.1) : Value)) rfl; simp [go_sem, sEv, sLook, nbeq, i64_w, -List.getD_eq_getElem?_getD, e0_]) ?_
              refine rw_on (c := la) rfl rfl rfl (by first | (rw [cLa]; rfl) | simp [cLa]) ?_
              refine rw_val (v := .pointer (some ⟨g47, 0, none⟩)) (w' := w60) rfl rfl rfl rfl (by simp [go_sem, sEv, sLook, nbeq, i64_w, -List.getD_eq_getElem?_getD, Try.underlying46]) ?_
              refine rw_on (c := la) rfl rfl rfl (by first | (rw [cLa]; rfl) | simp [cLa]) ?_
              refine rw_val (v := .int .i64 ((l.getD j (0, 0, 0, 0, 0, 0)).1)) (w' := w60) rfl rfl rfl rfl (by have eb_ := (hk55.on hb61); have e0_ := eb_.cellv (i := 0) (v := (.int .i64 ((l.getD j (0, 0, 0, 0, 0, 0)).1) : Value)) rfl; simp [go_sem, sEv, sLook, nbeq, i64_w, -List.getD_eq_getElem?_getD, e0_]) ?_
              refine rw_on (c := la) rfl rfl rfl (by first | (rw [cLa]; rfl) | simp [cLa]) ?_
              refine rw_val (v := .pointer (some ⟨g47, 1, none⟩)) (w' := w60) rfl rfl rfl rfl (by simp [go_sem, sEv, sLook, nbeq, i64_w, -List.getD_eq_getElem?_getD, Try.underlying46]) ?_
              refine rw_on (c := la) rfl rfl rfl (by first | (rw [cLa]; rfl) | simp [cLa]) ?_
              refine rw_val (v := .pointer (some ⟨g47, 1, none⟩)) (w' := w60) rfl rfl rfl rfl (by simp [go_sem, sEv, sLook, nbeq, i64_w, -List.getD_eq_getElem?_getD, Try.underlying44]) ?_
              refine rw_on (c := la) rfl rfl rfl (by first | (rw [cLa]; rfl) | simp [cLa]) ?_
              refine rw_val (v := .int .i64 ((l.getD j (0, 0, 0, 0, 0, 0)).2.1)) (w' := w60) rfl rfl rfl rfl (by have eb_ := (hk55.on hb61); have e0_ := eb_.cellv (i := 1) (v := (.int .i64 ((l.getD j (0, 0, 0, 0, 0, 0)).2.1) : Value)) rfl; simp [go_sem, sEv, sLook, nbeq, i64_w, -List.getD_eq_getElem?_getD, e0_]) ?_
              refine rw_on (c := la) rfl rfl rfl (by first | (rw [cLa]; rfl) | simp [cLa]) ?_
              refine rw_val (v := .int .i64 ((l.getD j (0, 0, 0, 0, 0, 0)).2.2.2.2.2)) (w' := w60) rfl rfl rfl rfl rfl ?_
              refine rw_on (c := la) rfl rfl rfl (by first | (rw [cLa]; rfl) | simp [cLa]) ?_
              refine rw_val (v := .agg #[.int .i64 ((l.getD j (0, 0, 0, 0, 0, 0)).2.2.2.1), .int .i64 ((l.getD j (0, 0, 0, 0, 0, 0)).1), .int .i64 ((l.getD j (0, 0, 0, 0, 0, 0)).2.1), .int .i64 ((l.getD j (0, 0, 0, 0, 0, 0)).2.2.2.2.2)]) (w' := w60) rfl rfl rfl rfl (by kernel_rfl) ?_
              refine rw_on (c := la) rfl rfl rfl (by first | (rw [cLa]; rfl) | simp [cLa]) ?_
              refine rw_val (v := .bool (c.t == ((l.getD j (0, 0, 0, 0, 0, 0)).2.2.2.1) && (c.src == ((l.getD j (0, 0, 0, 0, 0, 0)).1) && (c.seq == ((l.getD j (0, 0, 0, 0, 0, 0)).2.1) && (c.v == ((l.getD j (0, 0, 0, 0, 0, 0)).2.2.2.2.2)))))) (w' := w60) rfl rfl rfl rfl (by simp [go_sem, sEv, sLook, nbeq, i64_w, -List.getD_eq_getElem?_getD, eqA28]) ?_
              refine rw_val (v := .bool (c.t == ((l.getD j (0, 0, 0, 0, 0, 0)).2.2.2.1) && (c.src == ((l.getD j (0, 0, 0, 0, 0, 0)).1) && (c.seq == ((l.getD j (0, 0, 0, 0, 0, 0)).2.1) && (c.v == ((l.getD j (0, 0, 0, 0, 0, 0)).2.2.2.2.2)))))) (w' := w60) rfl rfl rfl rfl (by first | (simp [go_sem, sEv, sLook, nbeq, i64_w, -List.getD_eq_getElem?_getD, cLa]; done) | (rw [cLa]; simp [go_sem, sEv, sLook, nbeq, i64_w, -List.getD_eq_getElem?_getD]; done) | (simp [go_sem, sEv, sLook, nbeq, i64_w, -List.getD_eq_getElem?_getD] <;> omega) | (simp [go_sem, sEv, sLook, nbeq, i64_w, -List.getD_eq_getElem?_getD]; intro h_; exact absurd (by omega) h_)) ?_
              refine rw_val (v := .bool (c.t == ((l.getD j (0, 0, 0, 0, 0, 0)).2.2.2.1) && (c.src == ((l.getD j (0, 0, 0, 0, 0, 0)).1) && (c.seq == ((l.getD j (0, 0, 0, 0, 0, 0)).2.1) && (c.v == ((l.getD j (0, 0, 0, 0, 0, 0)).2.2.2.2.2)))))) (w' := w60) rfl rfl rfl rfl rfl ?_
              refine rw_end ?_
              refine w_weaken (G' := [(3, .pointer (some ⟨g14, 0, none⟩)), (7, .bool (((l.getD j (0, 0, 0, 0, 0, 0)).2.2.2.2.2) == c.mn)), (8, .bool (((l.getD j (0, 0, 0, 0, 0, 0)).2.2.2.2.2) == c.mx)), (9, .bool (c.t == ((l.getD j (0, 0, 0, 0, 0, 0)).2.2.2.1) && (c.src == ((l.getD j (0, 0, 0, 0, 0, 0)).1) && (c.seq == ((l.getD j (0, 0, 0, 0, 0, 0)).2.1) && (c.v == ((l.getD j (0, 0, 0, 0, 0, 0)).2.2.2.2.2)))))), (50, .slice (some ad38) l.length c1), (51, .int .i64 ((l.length : Nat) : Int)), (52, .int .i64 ((j : Nat) : Int))]) ⟨rfl, rfl, rfl, rfl, rfl, rfl, rfl, trivial⟩ ?_
              refine w_blk ?_
              refine w_region ?_
              refine rw_val (v := .int .i64 ((j + 1 : Nat) : Int)) (w' := w60) rfl rfl rfl rfl (by simp [go_sem, sEv, sLook, nbeq, i64_w, -List.getD_eq_getElem?_getD]; exact wrap_id (by omega) (by omega)) ?_
              refine rw_val (v := .int .i64 ((j + 1 : Nat) : Int)) (w' := w60) rfl rfl rfl rfl rfl ?_
              refine rw_end ?_
              exact w_back (m_ - 1) [(3, .pointer (some ⟨g14, 0, none⟩)), (7, .bool (((l.getD j (0, 0, 0, 0, 0, 0)).2.2.2.2.2) == c.mn)), (8, .bool (((l.getD j (0, 0, 0, 0, 0, 0)).2.2.2.2.2) == c.mx)), (9, .bool (c.t == ((l.getD j (0, 0, 0, 0, 0, 0)).2.2.2.1) && (c.src == ((l.getD j (0, 0, 0, 0, 0, 0)).1) && (c.seq == ((l.getD j (0, 0, 0, 0, 0, 0)).2.1) && (c.v == ((l.getD j (0, 0, 0, 0, 0, 0)).2.2.2.2.2)))))), (50, .slice (some ad38) l.length c1), (51, .int .i64 ((l.length : Nat) : Int)), (52, .int .i64 ((j + 1 : Nat) : Int))] (by omega) ⟨rfl, rfl, rfl, rfl, rfl, rfl, rfl, trivial⟩ ⟨(j + 1), (((l.getD j (0, 0, 0, 0, 0, 0)).2.2.2.2.2) == c.mn), (((l.getD j (0, 0, 0, 0, 0, 0)).2.2.2.2.2) == c.mx), (c.t == ((l.getD j (0, 0, 0, 0, 0, 0)).2.2.2.1) && (c.src == ((l.getD j (0, 0, 0, 0, 0, 0)).1) && (c.seq == ((l.getD j (0, 0, 0, 0, 0, 0)).2.1) && (c.v == ((l.getD j (0, 0, 0, 0, 0, 0)).2.2.2.2.2))))), by omega, (chain (hk54.below (by omega) (chain hB_L31 hb49)) hb61), (by rw [any_snoc l j (0, 0, 0, 0, 0, 0) _ (by omega), ← Bool.or_assoc, ← hf33]; simp [cLo]), (by rw [any_snoc l j (0, 0, 0, 0, 0, 0) _ (by omega), ← Bool.or_assoc, ← hf34]; simp [cHi]), (by rw [any_snoc l j (0, 0, 0, 0, 0, 0) _ (by omega), ← Bool.or_assoc, ← hf35]; simp [cLa]), (((hf36.on hb49).keep hk54 (by omega)).on hb61), rfl⟩
            · refine rw_off (c := la) rfl rfl rfl (by first | (rw [cLa]; rfl) | simp [cLa]) rfl rfl ?_
              refine rw_off (c := la) rfl rfl rfl (by first | (rw [cLa]; rfl) | simp [cLa]) rfl rfl ?_
              refine rw_off (c := la) rfl rfl rfl (by first | (rw [cLa]; rfl) | simp [cLa]) rfl rfl ?_
              refine rw_off (c := la) rfl rfl rfl (by first | (rw [cLa]; rfl) | simp [cLa]) rfl rfl ?_
              refine rw_off (c := la) rfl rfl rfl (by first | (rw [cLa]; rfl) | simp [cLa]) rfl rfl ?_
              refine rw_off (c := la) rfl rfl rfl (by first | (rw [cLa]; rfl) | simp [cLa]) rfl rfl ?_
              refine rw_off (c := la) rfl rfl rfl (by first | (rw [cLa]; rfl) | simp [cLa]) rfl rfl ?_
              refine rw_off (c := la) rfl rfl rfl (by first | (rw [cLa]; rfl) | simp [cLa]) rfl rfl ?_
              refine rw_off (c := la) rfl rfl rfl (by first | (rw [cLa]; rfl) | simp [cLa]) rfl rfl ?_
              refine rw_off (c := la) rfl rfl rfl (by first | (rw [cLa]; rfl) | simp [cLa]) rfl rfl ?_
              refine rw_off (c := la) rfl rfl rfl (by first | (rw [cLa]; rfl) | simp [cLa]) rfl rfl ?_
              refine rw_off (c := la) rfl rfl rfl (by first | (rw [cLa]; rfl) | simp [cLa]) rfl rfl ?_
              refine rw_off (c := la) rfl rfl rfl (by first | (rw [cLa]; rfl) | simp [cLa]) rfl rfl ?_
              refine rw_val (v := .bool true) (w' := w60) rfl rfl rfl rfl (by first | (simp [go_sem, sEv, sLook, nbeq, i64_w, -List.getD_eq_getElem?_getD, cLa]; done) | (rw [cLa]; simp [go_sem, sEv, sLook, nbeq, i64_w, -List.getD_eq_getElem?_getD]; done) | (simp [go_sem, sEv, sLook, nbeq, i64_w, -List.getD_eq_getElem?_getD] <;> omega) | (simp [go_sem, sEv, sLook, nbeq, i64_w, -List.getD_eq_getElem?_getD]; intro h_; exact absurd (by omega) h_)) ?_
              refine rw_val (v := .bool true) (w' := w60) rfl rfl rfl rfl rfl ?_
              refine rw_end ?_
              refine w_weaken (G' := [(3, .pointer (some ⟨g14, 0, none⟩)), (7, .bool (((l.getD j (0, 0, 0, 0, 0, 0)).2.2.2.2.2) == c.mn)), (8, .bool (((l.getD j (0, 0, 0, 0, 0, 0)).2.2.2.2.2) == c.mx)), (9, .bool true), (50, .slice (some ad38) l.length c1), (51, .int .i64 ((l.length : Nat) : Int)), (52, .int .i64 ((j : Nat) : Int))]) ⟨rfl, rfl, rfl, rfl, rfl, rfl, rfl, trivial⟩ ?_
              refine w_blk ?_
              refine w_region ?_
              refine rw_val (v := .int .i64 ((j + 1 : Nat) : Int)) (w' := w60) rfl rfl rfl rfl (by simp [go_sem, sEv, sLook, nbeq, i64_w, -List.getD_eq_getElem?_getD]; exact wrap_id (by omega) (by omega)) ?_
              refine rw_val (v := .int .i64 ((j + 1 : Nat) : Int)) (w' := w60) rfl rfl rfl rfl rfl ?_
              refine rw_end ?_
              exact w_back (m_ - 1) [(3, .pointer (some ⟨g14, 0, none⟩)), (7, .bool (((l.getD j (0, 0, 0, 0, 0, 0)).2.2.2.2.2) == c.mn)), (8, .bool (((l.getD j (0, 0, 0, 0, 0, 0)).2.2.2.2.2) == c.mx)), (9, .bool true), (50, .slice (some ad38) l.length c1), (51, .int .i64 ((l.length : Nat) : Int)), (52, .int .i64 ((j + 1 : Nat) : Int))] (by omega) ⟨rfl, rfl, rfl, rfl, rfl, rfl, rfl, trivial⟩ ⟨(j + 1), (((l.getD j (0, 0, 0, 0, 0, 0)).2.2.2.2.2) == c.mn), (((l.getD j (0, 0, 0, 0, 0, 0)).2.2.2.2.2) == c.mx), true, by omega, (chain (hk54.below (by omega) (chain hB_L31 hb49)) hb61), (by rw [any_snoc l j (0, 0, 0, 0, 0, 0) _ (by omega), ← Bool.or_assoc, ← hf33]; simp [cLo]), (by rw [any_snoc l j (0, 0, 0, 0, 0, 0) _ (by omega), ← Bool.or_assoc, ← hf34]; simp [cHi]), (by rw [any_snoc l j (0, 0, 0, 0, 0, 0) _ (by omega), ← Bool.or_assoc, ← hf35]; simp [cLa]), (((hf36.on hb49).keep hk54 (by omega)).on hb61), rfl⟩
          · refine w_drawk (M := [0, 1, 3, 3, 11, 31, 63, 0, 131, 387, 387, 1411, 3971, 8067, 511, 32767]) (ss := [Is (.bool lo), Is (.bool lo), Is (.int .i64 ((l.getD j (0, 0, 0, 0, 0, 0)).2.2.2.2.2)), Is (.pointer (some ⟨g14, 3, none⟩)), Is (.int .i64 c.mn), Is (.bool (((l.getD j (0, 0, 0, 0, 0, 0)).2.2.2.2.2) == c.mn)), Is (.bool (((l.getD j (0, 0, 0, 0, 0, 0)).2.2.2.2.2) == c.mn)), Is (.bool hi), Is (.bool hi), Is undef, Is undef, Is undef, Is undef, Is (.bool true), Is (.bool (((l.getD j (0, 0, 0, 0, 0, 0)).2.2.2.2.2) == c.mn))]) 15 rfl (by decide +kernel) ?_
            refine t_is (.bool lo) rfl rfl rfl rfl (fun W_ hW_ F_ => rfl) ?_
            refine t_is (.bool lo) rfl rfl rfl rfl (fun W_ hW_ F_ => rfl) ?_
            refine t_gis (c := lo) (.int .i64 ((l.getD j (0, 0, 0, 0, 0, 0)).2.2.2.2.2)) rfl rfl rfl (by first | (rw [cLo]; rfl) | simp [cLo]) rfl rfl rfl (fun W_ hW_ F_ => rfl) ?_
            refine t_gis (c := lo) (.pointer (some ⟨g14, 3, none⟩)) rfl rfl rfl (by first | (rw [cLo]; rfl) | simp [cLo]) rfl rfl rfl (fun W_ hW_ F_ => by simp [go_sem, sEv, sLook, nbeq, i64_w, -List.getD_eq_getElem?_getD, Try.underlying31]) ?_
            refine t_gis (c := lo) (.int .i64 c.mn) rfl rfl rfl (by first | (rw [cLo]; rfl) | simp [cLo]) rfl rfl rfl (fun W_ hW_ F_ => (by have eb_ := (((hf36.on hb49).keep hk54 (by omega)).on (below_of_drew hW_)); have e0_ := eb_.cellv (v := .int .i64 c.mn) (cA3 c); simp [go_sem, sEv, sLook, nbeq, i64_w, -List.getD_eq_getElem?_getD, e0_])) ?_
            refine t_gis (c := lo) (.bool (((l.getD j (0, 0, 0, 0, 0, 0)).2.2.2.2.2) == c.mn)) rfl rfl rfl (by first | (rw [cLo]; rfl) | simp [cLo]) rfl rfl rfl (fun W_ hW_ F_ => by simp [go_sem, sEv, sLook, nbeq, i64_w, -List.getD_eq_getElem?_getD]) ?_
            refine t_is (.bool (((l.getD j (0, 0, 0, 0, 0, 0)).2.2.2.2.2) == c.mn)) rfl rfl rfl rfl (fun W_ hW_ F_ => by first | (simp [go_sem, sEv, sLook, nbeq, i64_w, -List.getD_eq_getElem?_getD, cLo]; done) | (rw [cLo]; simp [go_sem, sEv, sLook, nbeq, i64_w, -List.getD_eq_getElem?_getD]; done) | (simp [go_sem, sEv, sLook, nbeq, i64_w, -List.getD_eq_getElem?_getD] <;> omega) | (simp [go_sem, sEv, sLook, nbeq, i64_w, -List.getD_eq_getElem?_getD]; intro h_; exact absurd (by omega) h_)) ?_
            refine t_is (.bool hi) rfl rfl rfl rfl (fun W_ hW_ F_ => rfl) ?_
            refine t_is (.bool hi) rfl rfl rfl rfl (fun W_ hW_ F_ => rfl) ?_
            refine t_off (c := hi) rfl rfl rfl (by first | (rw [cHi]; rfl) | simp [cHi]) rfl rfl ?_
            refine t_off (c := hi) rfl rfl rfl (by first | (rw [cHi]; rfl) | simp [cHi]) rfl rfl ?_
            refine t_off (c := hi) rfl rfl rfl (by first | (rw [cHi]; rfl) | simp [cHi]) rfl rfl ?_
            refine t_off (c := hi) rfl rfl rfl (by first | (rw [cHi]; rfl) | simp [cHi]) rfl rfl ?_
            refine t_is (.bool true) rfl rfl rfl rfl (fun W_ hW_ F_ => by first | (simp [go_sem, sEv, sLook, nbeq, i64_w, -List.getD_eq_getElem?_getD, cHi]; done) | (rw [cHi]; simp [go_sem, sEv, sLook, nbeq, i64_w, -List.getD_eq_getElem?_getD]; done) | (simp [go_sem, sEv, sLook, nbeq, i64_w, -List.getD_eq_getElem?_getD] <;> omega) | (simp [go_sem, sEv, sLook, nbeq, i64_w, -List.getD_eq_getElem?_getD]; intro h_; exact absurd (by omega) h_)) ?_
            refine t_is (.bool (((l.getD j (0, 0, 0, 0, 0, 0)).2.2.2.2.2) == c.mn)) rfl rfl rfl rfl (fun W_ hW_ F_ => rfl) ?_
            refine t_tail ?_
            intro w63 hb64_ F65
            have hb64 := below_of_drew hb64_
            have hs_w63 := hb64.size
            refine rw_val (v := .bool true) (w' := w63) rfl rfl rfl rfl rfl ?_
            refine rw_end ?_
            refine w_weaken (G' := [(3, .pointer (some ⟨g14, 0, none⟩)), (7, .bool (((l.getD j (0, 0, 0, 0, 0, 0)).2.2.2.2.2) == c.mn)), (8, .bool true), (9, .bool la), (11, .pointer (some ⟨g47, 0, none⟩)), (12, .int .i64 ((l.getD j (0, 0, 0, 0, 0, 0)).2.2.2.2.2)), (50, .slice (some ad38) l.length c1), (51, .int .i64 ((l.length : Nat) : Int)), (52, .int .i64 ((j : Nat) : Int))]) ⟨rfl, rfl, rfl, rfl, rfl, rfl, rfl, rfl, rfl, trivial⟩ ?_
            refine w_region ?_
            refine rw_val (v := .bool la) (w' := w63) rfl rfl rfl rfl rfl ?_
            refine rw_val (v := .bool la) (w' := w63) rfl rfl rfl rfl rfl ?_
            rcases bcase la with cLa | cLa
            · refine rw_on (c := la) rfl rfl rfl (by first | (rw [cLa]; rfl) | simp [cLa]) ?_
              refine rw_val (v := .pointer (some ⟨g14, 5, none⟩)) (w' := w63) rfl rfl rfl rfl (by simp [go_sem, sEv, sLook, nbeq, i64_w, -List.getD_eq_getElem?_getD, Try.underlying31]) ?_
              refine rw_on (c := la) rfl rfl rfl (by first | (rw [cLa]; rfl) | simp [cLa]) ?_
              refine rw_val (v := .agg #[.int .i64 c.t, .int .i64 c.src, .int .i64 c.seq, .int .i64 c.v]) (w' := w63) rfl rfl rfl rfl (by have eb_ := (((hf36.on hb49).keep hk54 (by omega)).on hb64); have e0_ := eb_.cellv (v := .int .i64 c.t) (cA5 c); have e1_ := eb_.cellv (v := .int .i64 c.src) (cA6 c); have e2_ := eb_.cellv (v := .int .i64 c.seq) (cA7 c); have e3_ := eb_.cellv (v := .int .i64 c.v) (cA8 c); simp [go_sem, sEv, sLook, nbeq, i64_w, -List.getD_eq_getElem?_getD, e0_, e1_, e2_, e3_, Try.underlying28]) ?_
              refine rw_on (c := la) rfl rfl rfl (by first | (rw [cLa]; rfl) | simp [cLa]) ?_
              refine rw_val (v := .pointer (some ⟨g47, 1, none⟩)) (w' := w63) rfl rfl rfl rfl (by simp [go_sem, sEv, sLook, nbeq, i64_w, -List.getD_eq_getElem?_getD, Try.underlying46]) ?_
              refine rw_on (c := la) rfl rfl rfl (by first | (rw [cLa]; rfl) | simp [cLa]) ?_
              refine rw_val (v := .pointer (some ⟨g47, 3, none⟩)) (w' := w63) rfl rfl rfl rfl (by simp [go_sem, sEv, sLook, nbeq, i64_w, -List.getD_eq_getElem?_getD, Try.underlying44]) ?_
              refine rw_on (c := la) rfl rfl rfl (by first | (rw [cLa]; rfl) | simp [cLa]) ?_
              refine rw_val (v := .int .i64 ((l.getD j (0, 0, 0, 0, 0, 0)).2.2.2.1)) (w' := w63) rfl rfl rfl rfl (by have eb_ := (hk55.on hb64); have e0_ := eb_.cellv (i := 3) (v := (.int .i64 ((l.getD j (0, 0, 0, 0, 0, 0)).2.2.2.1) : Value)) rfl; simp [go_sem, sEv, sLook, nbeq, i64_w, -List.getD_eq_getElem?_getD, e0_]) ?_
              refine rw_on (c := la) rfl rfl rfl (by first | (rw [cLa]; rfl) | simp [cLa]) ?_
              refine rw_val (v := .pointer (some ⟨g47, 0, none⟩)) (w' := w63) rfl rfl rfl rfl (by simp [go_sem, sEv, sLook, nbeq, i64_w, -List.getD_eq_getElem?_getD, Try.underlying46]) ?_
              refine rw_on (c := la) rfl rfl rfl (by first | (rw [cLa]; rfl) | simp [cLa]) ?_
              refine rw_val (v := .int .i64 ((l.getD j (0, 0, 0, 0, 0, 0)).1)) (w' := w63) rfl rfl rfl rfl (by have eb_ := (hk55.on hb64); have e0_ := eb_.cellv (i := 0) (v := (.int .i64 ((l.getD j (0, 0, 0, 0, 0, 0)).1) : Value)) rfl; simp [go_sem, sEv, sLook, nbeq, i64_w, -List.getD_eq_getElem?_getD, e0_]) ?_
              refine rw_on (c := la) rfl rfl rfl (by first | (rw [cLa]; rfl) | simp [cLa]) ?_
              refine rw_val (v := .pointer (some ⟨g47, 1, none⟩)) (w' := w63) rfl rfl rfl rfl (by simp [go_sem, sEv, sLook, nbeq, i64_w, -List.getD_eq_getElem?_getD, Try.underlying46]) ?_
              refine rw_on (c := la) rfl rfl rfl (by first | (rw [cLa]; rfl) | simp [cLa]) ?_
              refine rw_val (v := .pointer (some ⟨g47, 1, none⟩)) (w' := w63) rfl rfl rfl rfl (by simp [go_sem, sEv, sLook, nbeq, i64_w, -List.getD_eq_getElem?_getD, Try.underlying44]) ?_
              refine rw_on (c := la) rfl rfl rfl (by first | (rw [cLa]; rfl) | simp [cLa]) ?_
              refine rw_val (v := .int .i64 ((l.getD j (0, 0, 0, 0, 0, 0)).2.1)) (w' := w63) rfl rfl rfl rfl (by have eb_ := (hk55.on hb64); have e0_ := eb_.cellv (i := 1) (v := (.int .i64 ((l.getD j (0, 0, 0, 0, 0, 0)).2.1) : Value)) rfl; simp [go_sem, sEv, sLook, nbeq, i64_w, -List.getD_eq_getElem?_getD, e0_]) ?_
              refine rw_on (c := la) rfl rfl rfl (by first | (rw [cLa]; rfl) | simp [cLa]) ?_
              refine rw_val (v := .int .i64 ((l.getD j (0, 0, 0, 0, 0, 0)).2.2.2.2.2)) (w' := w63) rfl rfl rfl rfl rfl ?_
              refine rw_on (c := la) rfl rfl rfl (by first | (rw [cLa]; rfl) | simp [cLa]) ?_
              refine rw_val (v := .agg #[.int .i64 ((l.getD j (0, 0, 0, 0, 0, 0)).2.2.2.1), .int .i64 ((l.getD j (0, 0, 0, 0, 0, 0)).1), .int .i64 ((l.getD j (0, 0, 0, 0, 0, 0)).2.1), .int .i64 ((l.getD j (0, 0, 0, 0, 0, 0)).2.2.2.2.2)]) (w' := w63) rfl rfl rfl rfl (by kernel_rfl) ?_
              refine rw_on (c := la) rfl rfl rfl (by first | (rw [cLa]; rfl) | simp [cLa]) ?_
              refine rw_val (v := .bool (c.t == ((l.getD j (0, 0, 0, 0, 0, 0)).2.2.2.1) && (c.src == ((l.getD j (0, 0, 0, 0, 0, 0)).1) && (c.seq == ((l.getD j (0, 0, 0, 0, 0, 0)).2.1) && (c.v == ((l.getD j (0, 0, 0, 0, 0, 0)).2.2.2.2.2)))))) (w' := w63) rfl rfl rfl rfl (by simp [go_sem, sEv, sLook, nbeq, i64_w, -List.getD_eq_getElem?_getD, eqA28]) ?_
              refine rw_val (v := .bool (c.t == ((l.getD j (0, 0, 0, 0, 0, 0)).2.2.2.1) && (c.src == ((l.getD j (0, 0, 0, 0, 0, 0)).1) && (c.seq == ((l.getD j (0, 0, 0, 0, 0, 0)).2.1) && (c.v == ((l.getD j (0, 0, 0, 0, 0, 0)).2.2.2.2.2)))))) (w' := w63) rfl rfl rfl rfl (by first | (simp [go_sem, sEv, sLook, nbeq, i64_w, -List.getD_eq_getElem?_getD, cLa]; done) | (rw [cLa]; simp [go_sem, sEv, sLook, nbeq, i64_w, -List.getD_eq_getElem?_getD]; done) | (simp [go_sem, sEv, sLook, nbeq, i64_w, -List.getD_eq_getElem?_getD] <;> omega) | (simp [go_sem, sEv, sLook, nbeq, i64_w, -List.getD_eq_getElem?_getD]; intro h_; exact absurd (by omega) h_)) ?_
              refine rw_val (v := .bool (c.t == ((l.getD j (0, 0, 0, 0, 0, 0)).2.2.2.1) && (c.src == ((l.getD j (0, 0, 0, 0, 0, 0)).1) && (c.seq == ((l.getD j (0, 0, 0, 0, 0, 0)).2.1) && (c.v == ((l.getD j (0, 0, 0, 0, 0, 0)).2.2.2.2.2)))))) (w' := w63) rfl rfl rfl rfl rfl ?_
              refine rw_end ?_
              refine w_weaken (G' := [(3, .pointer (some ⟨g14, 0, none⟩)), (7, .bool (((l.getD j (0, 0, 0, 0, 0, 0)).2.2.2.2.2) == c.mn)), (8, .bool true), (9, .bool (c.t == ((l.getD j (0, 0, 0, 0, 0, 0)).2.2.2.1) && (c.src == ((l.getD j (0, 0, 0, 0, 0, 0)).1) && (c.seq == ((l.getD j (0, 0, 0, 0, 0, 0)).2.1) && (c.v == ((l.getD j (0, 0, 0, 0, 0, 0)).2.2.2.2.2)))))), (50, .slice (some ad38) l.length c1), (51, .int .i64 ((l.length : Nat) : Int)), (52, .int .i64 ((j : Nat) : Int))]) ⟨rfl, rfl, rfl, rfl, rfl, rfl, rfl, trivial⟩ ?_
              refine w_blk ?_
              refine w_region ?_
              refine rw_val (v := .int .i64 ((j + 1 : Nat) : Int)) (w' := w63) rfl rfl rfl rfl (by simp [go_sem, sEv, sLook, nbeq, i64_w, -List.getD_eq_getElem?_getD]; exact wrap_id (by omega) (by omega)) ?_
              refine rw_val (v := .int .i64 ((j + 1 : Nat) : Int)) (w' := w63) rfl rfl rfl rfl rfl ?_
              refine rw_end ?_
              exact w_back (m_ - 1) [(3, .pointer (some ⟨g14, 0, none⟩)), (7, .bool (((l.getD j (0, 0, 0, 0, 0, 0)).2.2.2.2.2) == c.mn)), (8, .bool true), (9, .bool (c.t == ((l.getD j (0, 0, 0, 0, 0, 0)).2.2.2.1) && (c.src == ((l.getD j (0, 0, 0, 0, 0, 0)).1) && (c.seq == ((l.getD j (0, 0, 0, 0, 0, 0)).2.1) && (c.v == ((l.getD j (0, 0, 0, 0, 0, 0)).2.2.2.2.2)))))), (50, .slice (some ad38) l.length c1), (51, .int .i64 ((l.length : Nat) : Int)), (52, .int .i64 ((j + 1 : Nat) : Int))] (by omega) ⟨rfl, rfl, rfl, rfl, rfl, rfl, rfl, trivial⟩ ⟨(j + 1), (((l.getD j (0, 0, 0, 0, 0, 0)).2.2.2.2.2) == c.mn), true, (c.t == ((l.getD j (0, 0, 0, 0, 0, 0)).2.2.2.1) && (c.src == ((l.getD j (0, 0, 0, 0, 0, 0)).1) && (c.seq == ((l.getD j (0, 0, 0, 0, 0, 0)).2.1) && (c.v == ((l.getD j (0, 0, 0, 0, 0, 0)).2.2.2.2.2))))), by omega, (chain (hk54.below (by omega) (chain hB_L31 hb49)) hb64), (by rw [any_snoc l j (0, 0, 0, 0, 0, 0) _ (by omega), ← Bool.or_assoc, ← hf33]; simp [cLo]), (by rw [any_snoc l j (0, 0, 0, 0, 0, 0) _ (by omega), ← Bool.or_assoc, ← hf34]; simp [cHi]), (by rw [any_snoc l j (0, 0, 0, 0, 0, 0) _ (by omega), ← Bool.or_assoc, ← hf35]; simp [cLa]), (((hf36.on hb49).keep hk54 (by omega)).on hb64), rfl⟩
            · refine rw_off (c := la) rfl rfl rfl (by first | (rw [cLa]; rfl) | simp [cLa]) rfl rfl ?_
              refine rw_off (c := la) rfl rfl rfl (by first | (rw [cLa]; rfl) | simp [cLa]) rfl rfl ?_
              refine rw_off (c := la) rfl rfl rfl (by first | (rw [cLa]; rfl) | simp [cLa]) rfl rfl ?_
              refine rw_off (c := la) rfl rfl rfl (by first | (rw [cLa]; rfl) | simp [cLa]) rfl rfl ?_
              refine rw_off (c := la) rfl rfl rfl (by first | (rw [cLa]; rfl) | simp [cLa]) rfl rfl ?_
              refine rw_off (c := la) rfl rfl rfl (by first | (rw [cLa]; rfl) | simp [cLa]) rfl rfl ?_
              refine rw_off (c := la) rfl rfl rfl (by first | (rw [cLa]; rfl) | simp [cLa]) rfl rfl ?_
              refine rw_off (c := la) rfl rfl rfl (by first | (rw [cLa]; rfl) | simp [cLa]) rfl rfl ?_
              refine rw_off (c := la) rfl rfl rfl (by first | (rw [cLa]; rfl) | simp [cLa]) rfl rfl ?_
              refine rw_off (c := la) rfl rfl rfl (by first | (rw [cLa]; rfl) | simp [cLa]) rfl rfl ?_
              refine rw_off (c := la) rfl rfl rfl (by first | (rw [cLa]; rfl) | simp [cLa]) rfl rfl ?_
              refine rw_off (c := la) rfl rfl rfl (by first | (rw [cLa]; rfl) | simp [cLa]) rfl rfl ?_
              refine rw_off (c := la) rfl rfl rfl (by first | (rw [cLa]; rfl) | simp [cLa]) rfl rfl ?_
              refine rw_val (v := .bool true) (w' := w63) rfl rfl rfl rfl (by first | (simp [go_sem, sEv, sLook, nbeq, i64_w, -List.getD_eq_getElem?_getD, cLa]; done) | (rw [cLa]; simp [go_sem, sEv, sLook, nbeq, i64_w, -List.getD_eq_getElem?_getD]; done) | (simp [go_sem, sEv, sLook, nbeq, i64_w, -List.getD_eq_getElem?_getD] <;> omega) | (simp [go_sem, sEv, sLook, nbeq, i64_w, -List.getD_eq_getElem?_getD]; intro h_; exact absurd (by omega) h_)) ?_
              refine rw_val (v := .bool true) (w' := w63) rfl rfl rfl rfl rfl ?_
              refine rw_end ?_
              refine w_weaken (G' := [(3, .pointer (some ⟨g14, 0, none⟩)), (7, .bool (((l.getD j (0, 0, 0, 0, 0, 0)).2.2.2.2.2) == c.mn)), (8, .bool true), (9, .bool true), (50, .slice (some ad38) l.length c1), (51, .int .i64 ((l.length : Nat) : Int)), (52, .int .i64 ((j : Nat) : Int))]) ⟨rfl, rfl, rfl, rfl, rfl, rfl, rfl, trivial⟩ ?_
              refine w_blk ?_
              refine w_region ?_
              refine rw_val (v := .int .i64 ((j + 1 : Nat) : Int)) (w' := w63) rfl rfl rfl rfl (by simp [go_sem, sEv, sLook, nbeq, i64_w, -List.getD_eq_getElem?_getD]; exact wrap_id (by omega) (by omega)) ?_
              refine rw_val (v := .int .i64 ((j + 1 : Nat) : Int)) (w' := w63) rfl rfl rfl rfl rfl ?_
              refine rw_end ?_
              exact w_back (m_ - 1) [(3, .pointer (some ⟨g14, 0, none⟩)), (7, .bool (((l.getD j (0, 0, 0, 0, 0, 0)).2.2.2.2.2) == c.mn)), (8, .bool true), (9, .bool true), (50, .slice (some ad38) l.length c1), (51, .int .i64 ((l.length : Nat) : Int)), (52, .int .i64 ((j + 1 : Nat) : Int))] (by omega) ⟨rfl, rfl, rfl, rfl, rfl, rfl, rfl, trivial⟩ ⟨(j + 1), (((l.getD j (0, 0, 0, 0, 0, 0)).2.2.2.2.2) == c.mn), true, true, by omega, (chain (hk54.below (by omega) (chain hB_L31 hb49)) hb64), (by rw [any_snoc l j (0, 0, 0, 0, 0, 0) _ (by omega), ← Bool.or_assoc, ← hf33]; simp [cLo]), (by rw [any_snoc l j (0, 0, 0, 0, 0, 0) _ (by omega), ← Bool.or_assoc, ← hf34]; simp [cHi]), (by rw [any_snoc l j (0, 0, 0, 0, 0, 0) _ (by omega), ← Bool.or_assoc, ← hf35]; simp [cLa]), (((hf36.on hb49).keep hk54 (by omega)).on hb64), rfl⟩
        · rcases bcase hi with cHi | cHi
          · refine w_drawk (M := [0, 1, 3, 3, 11, 31, 63, 0, 131, 387, 387, 1411, 3971, 8067, 511, 32767]) (ss := [Is (.bool lo), Is (.bool lo), Is undef, Is undef, Is undef, Is undef, Is (.bool true), Is (.bool hi), Is (.bool hi), Is (.int .i64 ((l.getD j (0, 0, 0, 0, 0, 0)).2.2.2.2.2)), Is (.pointer (some ⟨g14, 4, none⟩)), Is (.int .i64 c.mx), Is (.bool (((l.getD j (0, 0, 0, 0, 0, 0)).2.2.2.2.2) == c.mx)), Is (.bool (((l.getD j (0, 0, 0, 0, 0, 0)).2.2.2.2.2) == c.mx)), Is (.bool true)]) 15 rfl (by decide +kernel) ?_
            refine t_is (.bool lo) rfl rfl rfl rfl (fun W_ hW_ F_ => rfl) ?_
            refine t_is (.bool lo) rfl rfl rfl rfl (fun W_ hW_ F_ => rfl) ?_
            refine t_off (c := lo) rfl rfl rfl (by first | (rw [cLo]; rfl) | simp [cLo]) rfl rfl ?_
            refine t_off (c := lo) rfl rfl rfl (by first | (rw [cLo]; rfl) | simp [cLo]) rfl rfl ?_
            refine t_off (c := lo) rfl rfl rfl (by first | (rw [cLo]; rfl) | simp [cLo]) rfl rfl ?_
            refine t_off (c := lo) rfl rfl rfl (by first | (rw [cLo]; rfl) | simp [cLo]) rfl rfl ?_
            refine t_is (.bool true) rfl rfl rfl rfl (fun W_ hW_ F_ => by first | (simp [go_sem, sEv, sLook, nbeq, i64_w, -List.getD_eq_getElem?_getD, cLo]; done) | (rw [cLo]; simp [go_sem, sEv, sLook, nbeq, i64_w, -List.getD_eq_getElem?_getD]; done) | (simp [go_sem, sEv, sLook, nbeq, i64_w, -List.getD_eq_getElem?_getD] <;> omega) | (simp [go_sem, sEv, sLook, nbeq, i64_w, -List.getD_eq_getElem?_getD]; intro h_; exact absurd (by omega) h_)) ?_
            refine t_is (.bool hi) rfl rfl rfl rfl (fun W_ hW_ F_ => rfl) ?_
            refine t_is (.bool hi) rfl rfl rfl rfl (fun W_ hW_ F_ => rfl) ?_
            refine t_gis (c := hi) (.int .i64 ((l.getD j (0, 0, 0, 0, 0, 0)).2.2.2.2.2)) rfl rfl rfl (by first | (rw [cHi]; rfl) | simp [cHi]) rfl rfl rfl (fun W_ hW_ F_ => rfl) ?_
            refine t_gis (c := hi) (.pointer (some ⟨g14, 4, none⟩)) rfl rfl rfl (by first | (rw [cHi]; rfl) | simp [cHi]) rfl rfl rfl (fun W_ hW_ F_ => by simp [go_sem, sEv, sLook, nbeq, i64_w, -List.getD_eq_getElem?_getD, Try.underlying31]) ?_
            refine t_gis (c := hi) (.int .i64 c.mx) rfl rfl rfl (by first | (rw [cHi]; rfl) | simp [cHi]) rfl rfl rfl (fun W_ hW_ F_ => (by have eb_ := (((hf36.on hb49).keep hk54 (by omega)).on (below_of_drew hW_)); have e0_ := eb_.cellv (v := .int .i64 c.mx) (cA4 c); simp [go_sem, sEv, sLook, nbeq, i64_w, -List.getD_eq_getElem?_getD, e0_])) ?_
            refine t_gis (c := hi) (.bool (((l.getD j (0, 0, 0, 0, 0, 0)).2.2.2.2.2) == c.mx)) rfl rfl rfl (by first | (rw [cHi]; rfl) | simp [cHi]) rfl rfl rfl (fun W_ hW_ F_ => by simp [go_sem, sEv, sLook, nbeq, i64_w, -List.getD_eq_getElem?_getD]) ?_
            refine t_is (.bool (((l.getD j (0, 0, 0, 0, 0, 0)).2.2.2.2.2) == c.mx)) rfl rfl rfl rfl (fun W_ hW_ F_ => by first | (simp [go_sem, sEv, sLook, nbeq, i64_w, -List.getD_eq_getElem?_getD, cHi]; done) | (rw [cHi]; simp [go_sem, sEv, sLook, nbeq, i64_w, -List.getD_eq_getElem?_getD]; done) | (simp [go_sem, sEv, sLook, nbeq, i64_w, -List.getD_eq_getElem?_getD] <;> omega) | (simp [go_sem, sEv, sLook, nbeq, i64_w, -List.getD_eq_getElem?_getD]; intro h_; exact absurd (by omega) h_)) ?_
            refine t_is (.bool true) rfl rfl rfl rfl (fun W_ hW_ F_ => rfl) ?_
            refine t_tail ?_
            intro w66 hb67_ F68
            have hb67 := below_of_drew hb67_
            have hs_w66 := hb67.size
            refine rw_val (v := .bool (((l.getD j (0, 0, 0, 0, 0, 0)).2.2.2.2.2) == c.mx)) (w' := w66) rfl rfl rfl rfl rfl ?_
            refine rw_end ?_
            refine w_weaken (G' := [(3, .pointer (some ⟨g14, 0, none⟩)), (7, .bool true), (8, .bool (((l.getD j (0, 0, 0, 0, 0, 0)).2.2.2.2.2) == c.mx)), (9, .bool la), (11, .pointer (some ⟨g47, 0, none⟩)), (12, .int .i64 ((l.getD j (0, 0, 0, 0, 0, 0)).2.2.2.2.2)), (50, .slice (some ad38) l.length c1), (51, .int .i64 ((l.length : Nat) : Int)), (52, .int .i64 ((j : Nat) : Int))]) ⟨rfl, rfl, rfl, rfl, rfl, rfl, rfl, rfl, rfl, trivial⟩ ?_
            refine w_region ?_
            refine rw_val (v := .bool la) (w' := w66) rfl rfl rfl rfl rfl ?_
            refine rw_val (v := .bool la) (w' := w66) rfl rfl rfl rfl rfl ?_
            rcases bcase la with cLa | cLa
            · refine rw_on (c := la) rfl rfl rfl (by first | (rw [cLa]; rfl) | simp [cLa]) ?_
              refine rw_val (v := .pointer (some ⟨g14, 5, none⟩)) (w' := w66) rfl rfl rfl rfl (by simp [go_sem, sEv, sLook, nbeq, i64_w, -List.getD_eq_getElem?_getD, Try.underlying31]) ?_
              refine rw_on (c := la) rfl rfl rfl (by first | (rw [cLa]; rfl) | simp [cLa]) ?_
              refine rw_val (v := .agg #[.int .i64 c.t, .int .i64 c.src, .int .i64 c.seq, .int .i64 c.v]) (w' := w66) rfl rfl rfl rfl (by have eb_ := (((hf36.on hb49).keep hk54 (by omega)).on hb67); have e0_ := eb_.cellv (v := .int .i64 c.t) (cA5 c); have e1_ := eb_.cellv (v := .int .i64 c.src) (cA6 c); have e2_ := eb_.cellv (v := .int .i64 c.seq) (cA7 c); have e3_ := eb_.cellv (v := .int .i64 c.v) (cA8 c); simp [go_sem, sEv, sLook, nbeq, i64_w, -List.getD_eq_getElem?_getD, e0_, e1_, e2_, e3_, Try.underlying28]) ?_
              refine rw_on (c := la) rfl rfl rfl (by first | (rw [cLa]; rfl) | simp [cLa]) ?_
              refine rw_val (v := .pointer (some ⟨g47, 1, none⟩)) (w' := w66) rfl rfl rfl rfl (by simp [go_sem, sEv, sLook, nbeq, i64_w, -List.getD_eq_getElem?_getD, Try.underlying46]) ?_
              refine rw_on (c := la) rfl rfl rfl (by first | (rw [cLa]; rfl) | simp [cLa]) ?_
              refine rw_val (v := .pointer (some ⟨g47, 3, none⟩)) (w' := w66) rfl rfl rfl rfl (by simp [go_sem, sEv, sLook, nbeq, i64_w, -List.getD_eq_getElem?_getD, Try.underlying44]) ?_
              refine rw_on (c := la) rfl rfl rfl (by first | (rw [cLa]; rfl) | simp [cLa]) ?_
              refine rw_val (v := .int .i64 ((l.getD j (0, 0, 0, 0, 0, 0)).2.2.2.1)) (w' := w66) rfl rfl rfl rfl (by have eb_ := (hk55.on hb67); have e0_ := eb_.cellv (i := 3) (v := (.int .i64 ((l.getD j (0, 0, 0, 0, 0, 0)).2.2.2.1) : Value)) rfl; simp [go_sem, sEv, sLook, nbeq, i64_w, -List.getD_eq_getElem?_getD, e0_]) ?_
              refine rw_on (c := la) rfl rfl rfl (by first | (rw [cLa]; rfl) | simp [cLa]) ?_
              refine rw_val (v := .pointer (some ⟨g47, 0, none⟩)) (w' := w66) rfl rfl rfl rfl (by simp [go_sem, sEv, sLook, nbeq, i64_w, -List.getD_eq_getElem?_getD, Try.underlying46]) ?_
              refine rw_on (c := la) rfl rfl rfl (by first | (rw [cLa]; rfl) | simp [cLa]) ?_
              refine rw_val (v := .int .i64 ((l.getD j (0, 0, 0, 0, 0, 0)).1)) (w' := w66) rfl rfl rfl rfl (by have eb_ := (hk55.on hb67); have e0_ := eb_.cellv (i := 0) (v := (.int .i64 ((l.getD j (0, 0, 0, 0, 0, 0)).1) : Value)) rfl; simp [go_sem, sEv, sLook, nbeq, i64_w, -List.getD_eq_getElem?_getD, e0_]) ?_
              refine rw_on (c := la) rfl rfl rfl (by first | (rw [cLa]; rfl) | simp [cLa]) ?_
              refine rw_val (v := .pointer (some ⟨g47, 1, none⟩)) (w' := w66) rfl rfl rfl rfl (by simp [go_sem, sEv, sLook, nbeq, i64_w, -List.getD_eq_getElem?_getD, Try.underlying46]) ?_
              refine rw_on (c := la) rfl rfl rfl (by first | (rw [cLa]; rfl) | simp [cLa]) ?_
              refine rw_val (v := .pointer (some ⟨g47, 1, none⟩)) (w' := w66) rfl rfl rfl rfl (by simp [go_sem, sEv, sLook, nbeq, i64_w, -List.getD_eq_getElem?_getD, Try.underlying44]) ?_
              refine rw_on (c := la) rfl rfl rfl (by first | (rw [cLa]; rfl) | simp [cLa]) ?_
              refine rw_val (v := .int .i64 ((l.getD j (0, 0, 0, 0, 0, 0)).2.1)) (w' := w66) rfl rfl rfl rfl (by have eb_ := (hk55.on hb67); have e0_ := eb_.cellv (i := 1) (v := (.int .i64 ((l.getD j (0, 0, 0, 0, 0, 0)).2.1) : Value)) rfl; simp [go_sem, sEv, sLook, nbeq, i64_w, -List.getD_eq_getElem?_getD, e0_]) ?_
              refine rw_on (c := la) rfl rfl rfl (by first | (rw [cLa]; rfl) | simp [cLa]) ?_
              refine rw_val (v := .int .i64 ((l.getD j (0, 0, 0, 0, 0, 0)).2.2.2.2.2)) (w' := w66) rfl rfl rfl rfl rfl ?_
              refine rw_on (c := la) rfl rfl rfl (by first | (rw [cLa]; rfl) | simp [cLa]) ?_
              refine rw_val (v := .agg #[.int .i64 ((l.getD j (0, 0, 0, 0, 0, 0)).2.2.2.1), .int .i64 ((l.getD j (0, 0, 0, 0, 0, 0)).1), .int .i64 ((l.getD j (0, 0, 0, 0, 0, 0)).2.1), .int .i64 ((l.getD j (0, 0, 0, 0, 0, 0)).2.2.2.2.2)]) (w' := w66) rfl rfl rfl rfl (by kernel_rfl) ?_
              refine rw_on (c := la) rfl rfl rfl (by first | (rw [cLa]; rfl) | simp [cLa]) ?_
              refine rw_val (v := .bool (c.t == ((l.getD j (0, 0, 0, 0, 0, 0)).2.2.2.1) && (c.src == ((l.getD j (0, 0, 0, 0, 0, 0)).1) && (c.seq == ((l.getD j (0, 0, 0, 0, 0, 0)).2.1) && (c.v == ((l.getD j (0, 0, 0, 0, 0, 0)).2.2.2.2.2)))))) (w' := w66) rfl rfl rfl rfl (by simp [go_sem, sEv, sLook, nbeq, i64_w, -List.getD_eq_getElem?_getD, eqA28]) ?_
              refine rw_val (v := .bool (c.t == ((l.getD j (0, 0, 0, 0, 0, 0)).2.2.2.1) && (c.src == ((l.getD j (0, 0, 0, 0, 0, 0)).1) && (c.seq == ((l.getD j (0, 0, 0, 0, 0, 0)).2.1) && (c.v == ((l.getD j (0, 0, 0, 0, 0, 0)).2.2.2.2.2)))))) (w' := w66) rfl rfl rfl rfl (by first | (simp [go_sem, sEv, sLook, nbeq, i64_w, -List.getD_eq_getElem?_getD, cLa]; done) | (rw [cLa]; simp [go_sem, sEv, sLook, nbeq, i64_w, -List.getD_eq_getElem?_getD]; done) | (simp [go_sem, sEv, sLook, nbeq, i64_w, -List.getD_eq_getElem?_getD] <;> omega) | (simp [go_sem, sEv, sLook, nbeq, i64_w, -List.getD_eq_getElem?_getD]; intro h_; exact absurd (by omega) h_)) ?_
              refine rw_val (v := .bool (c.t == ((l.getD j (0, 0, 0, 0, 0, 0)).2.2.2.1) && (c.src == ((l.getD j (0, 0, 0, 0, 0, 0)).1) && (c.seq == ((l.getD j (0, 0, 0, 0, 0, 0)).2.1) && (c.v == ((l.getD j (0, 0, 0, 0, 0, 0)).2.2.2.2.2)))))) (w' := w66) rfl rfl rfl rfl rfl ?_
              refine rw_end ?_
              refine w_weaken (G' := [(3, .pointer (some ⟨g14, 0, none⟩)), (7, .bool true), (8, .bool (((l.getD j (0, 0, 0, 0, 0, 0)).2.2.2.2.2) == c.mx)), (9, .bool (c.t == ((l.getD j (0, 0, 0, 0, 0, 0)).2.2.2.1) && (c.src == ((l.getD j (0, 0, 0, 0, 0, 0)).1) && (c.seq == ((l.getD j (0, 0, 0, 0, 0, 0)).2.1) && (c.v == ((l.getD j (0, 0, 0, 0, 0, 0)).2.2.2.2.2)))))), (50, .slice (some ad38) l.length c1), (51, .int .i64 ((l.length : Nat) : Int)), (52, .int .i64 ((j : Nat) : Int))]) ⟨rfl, rfl, rfl, rfl, rfl, rfl, rfl, trivial⟩ ?_
              refine w_blk ?_
              refine w_region ?_
              refine rw_val (v := .int .i64 ((j + 1 : Nat) : Int)) (w' := w66) rfl rfl rfl rfl (by simp [go_sem, sEv, sLook, nbeq, i64_w, -List.getD_eq_getElem?_getD]; exact wrap_id (by omega) (by omega)) ?_
              refine rw_val (v := .int .i64 ((j + 1 : Nat) : Int)) (w' := w66) rfl rfl rfl rfl rfl ?_
              refine rw_end ?_
              exact w_back (m_ - 1) [(3, .pointer (some ⟨g14, 0, none⟩)), (7, .bool true), (8, .bool (((l.getD j (0, 0, 0, 0, 0, 0)).2.2.2.2.2) == c.mx)), (9, .bool (c.t == ((l.getD j (0, 0, 0, 0, 0, 0)).2.2.2.1) && (c.src == ((l.getD j (0, 0, 0, 0, 0, 0)).1) && (c.seq == ((l.getD j (0, 0, 0, 0, 0, 0)).2.1) && (c.v == ((l.getD j (0, 0, 0, 0, 0, 0)).2.2.2.2.2)))))), (50, .slice (some ad38) l.length c1), (51, .int .i64 ((l.length : Nat) : Int)), (52, .int .i64 ((j + 1 : Nat) : Int))] (by omega) ⟨rfl, rfl, rfl, rfl, rfl, rfl, rfl, trivial⟩ ⟨(j + 1), true, (((l.getD j (0, 0, 0, 0, 0, 0)).2.2.2.2.2) == c.mx), (c.t == ((l.getD j (0, 0, 0, 0, 0, 0)).2.2.2.1) && (c.src == ((l.getD j (0, 0, 0, 0, 0, 0)).1) && (c.seq == ((l.getD j (0, 0, 0, 0, 0, 0)).2.1) && (c.v == ((l.getD j (0, 0, 0, 0, 0, 0)).2.2.2.2.2))))), by omega, (chain (hk54.below (by omega) (chain hB_L31 hb49)) hb67), (by rw [any_snoc l j (0, 0, 0, 0, 0, 0) _ (by omega), ← Bool.or_assoc, ← hf33]; simp [cLo]), (by rw [any_snoc l j (0, 0, 0, 0, 0, 0) _ (by omega), ← Bool.or_assoc, ← hf34]; simp [cHi]), (by rw [any_snoc l j (0, 0, 0, 0, 0, 0) _ (by omega), ← Bool.or_assoc, ← hf35]; simp [cLa]), (((hf36.on hb49).keep hk54 (by omega)).on hb67), rfl⟩
            · refine rw_off (c := la) rfl rfl rfl (by first | (rw [cLa]; rfl) | simp [cLa]) rfl rfl ?_
              refine rw_off (c := la) rfl rfl rfl (by first | (rw [cLa]; rfl) | simp [cLa]) rfl rfl ?_
              refine rw_off (c := la) rfl rfl rfl (by first | (rw [cLa]; rfl) | simp [cLa]) rfl rfl ?_
              refine rw_off (c := la) rfl rfl rfl (by first | (rw [cLa]; rfl) | simp [cLa]) rfl rfl ?_
              refine rw_off (c := la) rfl rfl rfl (by first | (rw [cLa]; rfl) | simp [cLa]) rfl rfl ?_
              refine rw_off (c := la) rfl rfl rfl (by first | (rw [cLa]; rfl) | simp [cLa]) rfl rfl ?_
              refine rw_off (c := la) rfl rfl rfl (by first | (rw [cLa]; rfl) | simp [cLa]) rfl rfl ?_
              refine rw_off (c := la) rfl rfl rfl (by first | (rw [cLa]; rfl) | simp [cLa]) rfl rfl ?_
              refine rw_off (c := la) rfl rfl rfl (by first | (rw [cLa]; rfl) | simp [cLa]) rfl rfl ?_
              refine rw_off (c := la) rfl rfl rfl (by first | (rw [cLa]; rfl) | simp [cLa]) rfl rfl ?_
              refine rw_off (c := la) rfl rfl rfl (by first | (rw [cLa]; rfl) | simp [cLa]) rfl rfl ?_
              refine rw_off (c := la) rfl rfl rfl (by first | (rw [cLa]; rfl) | simp [cLa]) rfl rfl ?_
              refine rw_off (c := la) rfl rfl rfl (by first | (rw [cLa]; rfl) | simp [cLa]) rfl rfl ?_
              refine rw_val (v := .bool true) (w' := w66) rfl rfl rfl rfl (by first | (simp [go_sem, sEv, sLook, nbeq, i64_w, -List.getD_eq_getElem?_getD, cLa]; done) | (rw [cLa]; simp [go_sem, sEv, sLook, nbeq, i64_w, -List.getD_eq_getElem?_getD]; done) | (simp [go_sem, sEv, sLook, nbeq, i64_w, -List.getD_eq_getElem?_getD] <;> omega) | (simp [go_sem, sEv, sLook, nbeq, i64_w, -List.getD_eq_getElem?_getD]; intro h_; exact absurd (by omega) h_)) ?_
              refine rw_val (v := .bool true) (w' := w66) rfl rfl rfl rfl rfl ?_
              refine rw_end ?_
              refine w_weaken (G' := [(3, .pointer (some ⟨g14, 0, none⟩)), (7, .bool true), (8, .bool (((l.getD j (0, 0, 0, 0, 0, 0)).2.2.2.2.2) == c.mx)), (9, .bool true), (50, .slice (some ad38) l.length c1), (51, .int .i64 ((l.length : Nat) : Int)), (52, .int .i64 ((j : Nat) : Int))]) ⟨rfl, rfl, rfl, rfl, rfl, rfl, rfl, trivial⟩ ?_
              refine w_blk ?_
              refine w_region ?_
              refine rw_val (v := .int .i64 ((j + 1 : Nat) : Int)) (w' := w66) rfl rfl rfl rfl (by simp [go_sem, sEv, sLook, nbeq, i64_w, -List.getD_eq_getElem?_getD]; exact wrap_id (by omega) (by omega)) ?_
              refine rw_val (v := .int .i64 ((j + 1 : Nat) : Int)) (w' := w66) rfl rfl rfl rfl rfl ?_
              refine rw_end ?_
              exact w_back (m_ - 1) [(3, .pointer (some ⟨g14, 0, none⟩)), (7, .bool true), (8, .bool (((l.getD j (0, 0, 0, 0, 0, 0)).2.2.2.2.2) == c.mx)), (9, .bool true), (50, .slice (some ad38) l.length c1), (51, .int .i64 ((l.length : Nat) : Int)), (52, .int .i64 ((j + 1 : Nat) : Int))] (by omega) ⟨rfl, rfl, rfl, rfl, rfl, rfl, rfl, trivial⟩ ⟨(j + 1), true, (((l.getD j (0, 0, 0, 0, 0, 0)).2.2.2.2.2) == c.mx), true, by omega, (chain (hk54.below (by omega) (chain hB_L31 hb49)) hb67), (by rw [any_snoc l j (0, 0, 0, 0, 0, 0) _ (by omega), ← Bool.or_assoc, ← hf33]; simp [cLo]), (by rw [any_snoc l j (0, 0, 0, 0, 0, 0) _ (by omega), ← Bool.or_assoc, ← hf34]; simp [cHi]), (by rw [any_snoc l j (0, 0, 0, 0, 0, 0) _ (by omega), ← Bool.or_assoc, ← hf35]; simp [cLa]), (((hf36.on hb49).keep hk54 (by omega)).on hb67), rfl⟩
          · refine w_drawk (M := [0, 1, 3, 3, 11, 31, 63, 0, 131, 387, 387, 1411, 3971, 8067, 511, 32767]) (ss := [Is (.bool lo), Is (.bool lo), Is undef, Is undef, Is undef, Is undef, Is (.bool true), Is (.bool hi), Is (.bool hi), Is undef, Is undef, Is undef, Is undef, Is (.bool true), Is (.bool true)]) 15 rfl (by decide +kernel) ?_
            refine t_is (.bool lo) rfl rfl rfl rfl (fun W_ hW_ F_ => rfl) ?_
            refine t_is (.bool lo) rfl rfl rfl rfl (fun W_ hW_ F_ => rfl) ?_
            refine t_off (c := lo) rfl rfl rfl (by first | (rw [cLo]; rfl) | simp [cLo]) rfl rfl ?_
            refine t_off (c := lo) rfl rfl rfl (by first | (rw [cLo]; rfl) | simp [cLo]) rfl rfl ?_
            refine t_off (c := lo) rfl rfl rfl (by first | (rw [cLo]; rfl) | simp [cLo]) rfl rfl ?_
            refine t_off (c := lo) rfl rfl rfl (by first | (rw [cLo]; rfl) | simp [cLo]) rfl rfl ?_
            refine t_is (.bool true) rfl rfl rfl rfl (fun W_ hW_ F_ => by first | (simp [go_sem, sEv, sLook, nbeq, i64_w, -List.getD_eq_getElem?_getD, cLo]; done) | (rw [cLo]; simp [go_sem, sEv, sLook, nbeq, i64_w, -List.getD_eq_getElem?_getD]; done) | (simp [go_sem, sEv, sLook, nbeq, i64_w, -List.getD_eq_getElem?_getD] <;> omega) | (simp [go_sem, sEv, sLook, nbeq, i64_w, -List.getD_eq_getElem?_getD]; intro h_; exact absurd (by omega) h_)) ?_
            refine t_is (.bool hi) rfl rfl rfl rfl (fun W_ hW_ F_ => rfl) ?_
            refine t_is (.bool hi) rfl rfl rfl rfl (fun W_ hW_ F_ => rfl) ?_
            refine t_off (c := hi) rfl rfl rfl (by first | (rw [cHi]; rfl) | simp [cHi]) rfl rfl ?_
            refine t_off (c := hi) rfl rfl rfl (by first | (rw [cHi]; rfl) | simp [cHi]) rfl rfl ?_
            refine t_off (c := hi) rfl rfl rfl (by first | (rw [cHi]; rfl) | simp [cHi]) rfl rfl ?_
            refine t_off (c := hi) rfl rfl rfl (by first | (rw [cHi]; rfl) | simp [cHi]) rfl rfl ?_
            refine t_is (.bool true) rfl rfl rfl rfl (fun W_ hW_ F_ => by first | (simp [go_sem, sEv, sLook, nbeq, i64_w, -List.getD_eq_getElem?_getD, cHi]; done) | (rw [cHi]; simp [go_sem, sEv, sLook, nbeq, i64_w, -List.getD_eq_getElem?_getD]; done) | (simp [go_sem, sEv, sLook, nbeq, i64_w, -List.getD_eq_getElem?_getD] <;> omega) | (simp [go_sem, sEv, sLook, nbeq, i64_w, -List.getD_eq_getElem?_getD]; intro h_; exact absurd (by omega) h_)) ?_
            refine t_is (.bool true) rfl rfl rfl rfl (fun W_ hW_ F_ => rfl) ?_
            refine t_tail ?_
            intro w69 hb70_ F71
            have hb70 := below_of_drew hb70_
            have hs_w69 := hb70.size
            refine rw_val (v := .bool true) (w' := w69) rfl rfl rfl rfl rfl ?_
            refine rw_end ?_
            refine w_weaken (G' := [(3, .pointer (some ⟨g14, 0, none⟩)), (7, .bool true), (8, .bool true), (9, .bool la), (11, .pointer (some ⟨g47, 0, none⟩)), (12, .int .i64 ((l.getD j (0, 0, 0, 0, 0, 0)).2.2.2.2.2)), (50, .slice (some ad38) l.length c1), (51, .int .i64 ((l.length : Nat) : Int)), (52, .int .i64 ((j : Nat) : Int))]) ⟨rfl, rfl, rfl, rfl, rfl, rfl, rfl, rfl, rfl, trivial⟩ ?_
            refine w_region ?_
            refine rw_val (v := .bool la) (w' := w69) rfl rfl rfl rfl rfl ?_
            refine rw_val (v := .bool la) (w' := w69) rfl rfl rfl rfl rfl ?_
            rcases bcase la with cLa | cLa
            · refine rw_on (c := la) rfl rfl rfl (by first | (rw [cLa]; rfl) | simp [cLa]) ?_
              refine rw_val (v := .pointer (some ⟨g14, 5, none⟩)) (w' := w69) rfl rfl rfl rfl (by simp [go_sem, sEv, sLook, nbeq, i64_w, -List.getD_eq_getElem?_getD, Try.underlying31]) ?_
              refine rw_on (c := la) rfl rfl rfl (by first | (rw [cLa]; rfl) | simp [cLa]) ?_
              refine rw_val (v := .agg #[.int .i64 c.t, .int .i64 c.src, .int .i64 c.seq, .int .i64 c.v]) (w' := w69) rfl rfl rfl rfl (by have eb_ := (((hf36.on hb49).keep hk54 (by omega)).on hb70); have e0_ := eb_.cellv (v := .int .i64 c.t) (cA5 c); have e1_ := eb_.cellv (v := .int .i64 c.src) (cA6 c); have e2_ := eb_.cellv (v := .int .i64 c.seq) (cA7 c); have e3_ := eb_.cellv (v := .int .i64 c.v) (cA8 c); simp [go_sem, sEv, sLook, nbeq, i64_w, -List.getD_eq_getElem?_getD, e0_, e1_, e2_, e3_, Try.underlying28]) ?_
              refine rw_on (c := la) rfl rfl rfl (by first | (rw [cLa]; rfl) | simp [cLa]) ?_
              refine rw_val (v := .pointer (some ⟨g47, 1, none⟩)) (w' := w69) rfl rfl rfl rfl (by simp [go_sem, sEv, sLook, nbeq, i64_w, -List.getD_eq_getElem?_getD, Try.underlying46]) ?_
              refine rw_on (c := la) rfl rfl rfl (by first | (rw [cLa]; rfl) | simp [cLa]) ?_
              refine rw_val (v := .pointer (some ⟨g47, 3, none⟩)) (w' := w69) rfl rfl rfl rfl (by simp [go_sem, sEv, sLook, nbeq, i64_w, -List.getD_eq_getElem?_getD, Try.underlying44]) ?_
              refine rw_on (c := la) rfl rfl rfl (by first | (rw [cLa]; rfl) | simp [cLa]) ?_
              refine rw_val (v := .int .i64 ((l.getD j (0, 0, 0, 0, 0, 0)).2.2.2.1)) (w' := w69) rfl rfl rfl rfl (by have eb_ := (hk55.on hb70); have e0_ := eb_.cellv (i := 3) (v := (.int .i64 ((l.getD j (0, 0, 0, 0, 0, 0)).2.2.2.1) : Value)) rfl; simp [go_sem, sEv, sLook, nbeq, i64_w, -List.getD_eq_getElem?_getD, e0_]) ?_
              refine rw_on (c := la) rfl rfl rfl (by first | (rw [cLa]; rfl) | simp [cLa]) ?_
              refine rw_val (v := .pointer (some ⟨g47, 0, none⟩)) (w' := w69) rfl rfl rfl rfl (by simp [go_sem, sEv, sLook, nbeq, i64_w, -List.getD_eq_getElem?_getD, Try.underlying46]) ?_
              refine rw_on (c := la) rfl rfl rfl (by first | (rw [cLa]; rfl) | simp [cLa]) ?_
              refine rw_val (v := .int .i64 ((l.getD j (0, 0, 0, 0, 0, 0)).1)) (w' := w69) rfl rfl rfl rfl (by have eb_ := (hk55.on hb70); have e0_ := eb_.cellv (i := 0) (v := (.int .i64 ((l.getD j (0, 0, 0, 0, 0, 0)).1) : Value)) rfl; simp [go_sem, sEv, sLook, nbeq, i64_w, -List.getD_eq_getElem?_getD, e0_]) ?_
              refine rw_on (c := la) rfl rfl rfl (by first | (rw [cLa]; rfl) | simp [cLa]) ?_
              refine rw_val (v := .pointer (some ⟨g47, 1, none⟩)) (w' := w69) rfl rfl rfl rfl (by simp [go_sem, sEv, sLook, nbeq, i64_w, -List.getD_eq_getElem?_getD, Try.underlying46]) ?_
              refine rw_on (c := la) rfl rfl rfl (by first | (rw [cLa]; rfl) | simp [cLa]) ?_
              refine rw_val (v := .pointer (some ⟨g47, 1, none⟩)) (w' := w69) rfl rfl rfl rfl (by simp [go_sem, sEv, sLook, nbeq, i64_w, -List.getD_eq_getElem?_getD, Try.underlying44]) ?_
              refine rw_on (c := la) rfl rfl rfl (by first | (rw [cLa]; rfl) | simp [cLa]) ?_
              refine rw_val (v := .int .i64 ((l.getD j (0, 0, 0, 0, 0, 0)).2.1)) (w' := w69) rfl rfl rfl rfl (by have eb_ := (hk55.on hb70); have e0_ := eb_.cellv (i := 1) (v := (.int .i64 ((l.getD j (0, 0, 0, 0, 0, 0)).2.1) : Value)) rfl; simp [go_sem, sEv, sLook, nbeq, i64_w, -List.getD_eq_getElem?_getD, e0_]) ?_
              refine rw_on (c := la) rfl rfl rfl (by first | (rw [cLa]; rfl) | simp [cLa]) ?_
              refine rw_val (v := .int .i64 ((l.getD j (0, 0, 0, 0, 0, 0)).2.2.2.2.2)) (w' := w69) rfl rfl rfl rfl rfl ?_
              refine rw_on (c := la) rfl rfl rfl (by first | (rw [cLa]; rfl) | simp [cLa]) ?_
              refine rw_val (v := .agg #[.int .i64 ((l.getD j (0, 0, 0, 0, 0, 0)).2.2.2.1), .int .i64 ((l.getD j (0, 0, 0, 0, 0, 0)).1), .int .i64 ((l.getD j (0, 0, 0, 0, 0, 0)).2.1), .int .i64 ((l.getD j (0, 0, 0, 0, 0, 0)).2.2.2.2.2)]) (w' := w69) rfl rfl rfl rfl (by kernel_rfl) ?_
              refine rw_on (c := la) rfl rfl rfl (by first | (rw [cLa]; rfl) | simp [cLa]) ?_
              refine rw_val (v := .bool (c.t == ((l.getD j (0, 0, 0, 0, 0, 0)).2.2.2.1) && (c.src == ((l.getD j (0, 0, 0, 0, 0, 0)).1) && (c.seq == ((l.getD j (0, 0, 0, 0, 0, 0)).2.1) && (c.v == ((l.getD j (0, 0, 0, 0, 0, 0)).2.2.2.2.2)))))) (w' := w69) rfl rfl rfl rfl (by simp [go_sem, sEv, sLook, nbeq, i64_w, -List.getD_eq_getElem?_getD, eqA28]) ?_
              refine rw_val (v := .bool (c.t == ((l.getD j (0, 0, 0, 0, 0, 0)).2.2.2.1) && (c.src == ((l.getD j (0, 0, 0, 0, 0, 0)).1) && (c.seq == ((l.getD j (0, 0, 0, 0, 0, 0)).2.1) && (c.v == ((l.getD j (0, 0, 0, 0, 0, 0)).2.2.2.2.2)))))) (w' := w69) rfl rfl rfl rfl (by first | (simp [go_sem, sEv, sLook, nbeq, i64_w, -List.getD_eq_getElem?_getD, cLa]; done) | (rw [cLa]; simp [go_sem, sEv, sLook, nbeq, i64_w, -List.getD_eq_getElem?_getD]; done) | (simp [go_sem, sEv, sLook, nbeq, i64_w, -List.getD_eq_getElem?_getD] <;> omega) | (simp [go_sem, sEv, sLook, nbeq, i64_w, -List.getD_eq_getElem?_getD]; intro h_; exact absurd (by omega) h_)) ?_
              refine rw_val (v := .bool (c.t == ((l.getD j (0, 0, 0, 0, 0, 0)).2.2.2.1) && (c.src == ((l.getD j (0, 0, 0, 0, 0, 0)).1) && (c.seq == ((l.getD j (0, 0, 0, 0, 0, 0)).2.1) && (c.v == ((l.getD j (0, 0, 0, 0, 0, 0)).2.2.2.2.2)))))) (w' := w69) rfl rfl rfl rfl rfl ?_
              refine rw_end ?_
              refine w_weaken (G' := [(3, .pointer (some ⟨g14, 0, none⟩)), (7, .bool true), (8, .bool true), (9, .bool (c.t == ((l.getD j (0, 0, 0, 0, 0, 0)).2.2.2.1) && (c.src == ((l.getD j (0, 0, 0, 0, 0, 0)).1) && (c.seq == ((l.getD j (0, 0, 0, 0, 0, 0)).2.1) && (c.v == ((l.getD j (0, 0, 0, 0, 0, 0)).2.2.2.2.2)))))), (50, .slice (some ad38) l.length c1), (51, .int .i64 ((l.length : Nat) : Int)), (52, .int .i64 ((j : Nat) : Int))]) ⟨rfl, rfl, rfl, rfl, rfl, rfl, rfl, trivial⟩ ?_
              refine w_blk ?_
              refine w_region ?_
              refine rw_val (v := .int .i64 ((j + 1 : Nat) : Int)) (w' := w69) rfl rfl rfl rfl (by simp [go_sem, sEv, sLook, nbeq, i64_w, -List.getD_eq_getElem?_getD]; exact wrap_id (by omega) (by omega)) ?_
              refine rw_val (v := .int .i64 ((j + 1 : Nat) : Int)) (w' := w69) rfl rfl rfl rfl rfl ?_
              refine rw_end ?_
              exact w_back (m_ - 1) [(3, .pointer (some ⟨g14, 0, none⟩)), (7, .bool true), (8, .bool true), (9, .bool (c.t == ((l.getD j (0, 0, 0, 0, 0, 0)).2.2.2.1) && (c.src == ((l.getD j (0, 0, 0, 0, 0, 0)).1) && (c.seq == ((l.getD j (0, 0, 0, 0, 0, 0)).2.1) && (c.v == ((l.getD j (0, 0, 0, 0, 0, 0)).2.2.2.2.2)))))), (50, .slice (some ad38) l.length c1), (51, .int .i64 ((l.length : Nat) : Int)), (52, .int .i64 ((j + 1 : Nat) : Int))] (by omega) ⟨rfl, rfl, rfl, rfl, rfl, rfl, rfl, trivial⟩ ⟨(j + 1), true, true, (c.t == ((l.getD j (0, 0, 0, 0, 0, 0)).2.2.2.1) && (c.src == ((l.getD j (0, 0, 0, 0, 0, 0)).1) && (c.seq == ((l.getD j (0, 0, 0, 0, 0, 0)).2.1) && (c.v == ((l.getD j (0, 0, 0, 0, 0, 0)).2.2.2.2.2))))), by omega, (chain (hk54.below (by omega) (chain hB_L31 hb49)) hb70), (by rw [any_snoc l j (0, 0, 0, 0, 0, 0) _ (by omega), ← Bool.or_assoc, ← hf33]; simp [cLo]), (by rw [any_snoc l j (0, 0, 0, 0, 0, 0) _ (by omega), ← Bool.or_assoc, ← hf34]; simp [cHi]), (by rw [any_snoc l j (0, 0, 0, 0, 0, 0) _ (by omega), ← Bool.or_assoc, ← hf35]; simp [cLa]), (((hf36.on hb49).keep hk54 (by omega)).on hb70), rfl⟩
            · refine rw_off (c := la) rfl rfl rfl (by first | (rw [cLa]; rfl) | simp [cLa]) rfl rfl ?_
              refine rw_off (c := la) rfl rfl rfl (by first | (rw [cLa]; rfl) | simp [cLa]) rfl rfl ?_
              refine rw_off (c := la) rfl rfl rfl (by first | (rw [cLa]; rfl) | simp [cLa]) rfl rfl ?_
              refine rw_off (c := la) rfl rfl rfl (by first | (rw [cLa]; rfl) | simp [cLa]) rfl rfl ?_
              refine rw_off (c := la) rfl rfl rfl (by first | (rw [cLa]; rfl) | simp [cLa]) rfl rfl ?_
              refine rw_off (c := la) rfl rfl rfl (by first | (rw [cLa]; rfl) | simp [cLa]) rfl rfl ?_
              refine rw_off (c := la) rfl rfl rfl (by first | (rw [cLa]; rfl) | simp [cLa]) rfl rfl ?_
              refine rw_off (c := la) rfl rfl rfl (by first | (rw [cLa]; rfl) | simp [cLa]) rfl rfl ?_
              refine rw_off (c := la) rfl rfl rfl (by first | (rw [cLa]; rfl) | simp [cLa]) rfl rfl ?_
              refine rw_off (c := la) rfl rfl rfl (by first | (rw [cLa]; rfl) | simp [cLa]) rfl rfl ?_
              refine rw_off (c := la) rfl rfl rfl (by first | (rw [cLa]; rfl) | simp [cLa]) rfl rfl ?_
              refine rw_off (c := la) rfl rfl rfl (by first | (rw [cLa]; rfl) | simp [cLa]) rfl rfl ?_
              refine rw_off (c := la) rfl rfl rfl (by first | (rw [cLa]; rfl) | simp [cLa]) rfl rfl ?_
              refine rw_val (v := .bool true) (w' := w69) rfl rfl rfl rfl (by first | (simp [go_sem, sEv, sLook, nbeq, i64_w, -List.getD_eq_getElem?_getD, cLa]; done) | (rw [cLa]; simp [go_sem, sEv, sLook, nbeq, i64_w, -List.getD_eq_getElem?_getD]; done) | (simp [go_sem, sEv, sLook, nbeq, i64_w, -List.getD_eq_getElem?_getD] <;> omega) | (simp [go_sem, sEv, sLook, nbeq, i64_w, -List.getD_eq_getElem?_getD]; intro h_; exact absurd (by omega) h_)) ?_
              refine rw_val (v := .bool true) (w' := w69) rfl rfl rfl rfl rfl ?_
              refine rw_end ?_
              refine w_weaken (G' := [(3, .pointer (some ⟨g14, 0, none⟩)), (7, .bool true), (8, .bool true), (9, .bool true), (50, .slice (some ad38) l.length c1), (51, .int .i64 ((l.length : Nat) : Int)), (52, .int .i64 ((j : Nat) : Int))]) ⟨rfl, rfl, rfl, rfl, rfl, rfl, rfl, trivial⟩ ?_
              refine w_blk ?_
              refine w_region ?_
              refine rw_val (v := .int .i64 ((j + 1 : Nat) : Int)) (w' := w69) rfl rfl rfl rfl (by simp [go_sem, sEv, sLook, nbeq, i64_w, -List.getD_eq_getElem?_getD]; exact wrap_id (by omega) (by omega)) ?_
              refine rw_val (v := .int .i64 ((j + 1 : Nat) : Int)) (w' := w69) rfl rfl rfl rfl rfl ?_
              refine rw_end ?_
              exact w_back (m_ - 1) [(3, .pointer (some ⟨g14, 0, none⟩)), (7, .bool true), (8, .bool true), (9, .bool true), (50, .slice (some ad38) l.length c1), (51, .int .i64 ((l.length : Nat) : Int)), (52, .int .i64 ((j + 1 : Nat) : Int))] (by omega) ⟨rfl, rfl, rfl, rfl, rfl, rfl, rfl, trivial⟩ ⟨(j + 1), true, true, true, by omega, (chain (hk54.below (by omega) (chain hB_L31 hb49)) hb70), (by rw [any_snoc l j (0, 0, 0, 0, 0, 0) _ (by omega), ← Bool.or_assoc, ← hf33]; simp [cLo]), (by rw [any_snoc l j (0, 0, 0, 0, 0, 0) _ (by omega), ← Bool.or_assoc, ← hf34]; simp [cHi]), (by rw [any_snoc l j (0, 0, 0, 0, 0, 0) _ (by omega), ← Bool.or_assoc, ← hf35]; simp [cLa]), (((hf36.on hb49).keep hk54 (by omega)).on hb70), rfl⟩
      · have l72 : ¬ (((j : Nat) : Int) < ((l.length : Nat) : Int)) := of_decide_eq_false cJ
        refine w_exit rfl ?_
        refine w_seq ?_
        refine w_region ?_
        refine rw_val (v := .bool lo) (w' := w_L31) rfl rfl rfl rfl rfl ?_
        refine rw_val (v := .bool lo) (w' := w_L31) rfl rfl rfl rfl rfl ?_
        have hq73 : lo = true := by rw [hf33, show j = l.length by omega, List.take_length]; rcases l with _ | ⟨s0_, l_⟩; rfl; obtain ⟨x_, hx_, he_⟩ := hI13.mnE (by simp); rw [Bool.or_eq_true]; exact .inr (List.any_eq_true.2 ⟨x_, hx_, by simp [he_]⟩)
        refine rw_on (c := lo) rfl rfl rfl (by first | (rw [hq73]; rfl) | simp [hq73]) ?_
        refine rw_val (v := .bool hi) (w' := w_L31) rfl rfl rfl rfl rfl ?_
        refine rw_val (v := .bool hi) (w' := w_L31) rfl rfl rfl rfl (by first | (simp [go_sem, sEv, sLook, nbeq, i64_w, -List.getD_eq_getElem?_getD, hq73]; done) | (rw [hq73]; simp [go_sem, sEv, sLook, nbeq, i64_w, -List.getD_eq_getElem?_getD]; done) | (simp [go_sem, sEv, sLook, nbeq, i64_w, -List.getD_eq_getElem?_getD] <;> omega) | (simp [go_sem, sEv, sLook, nbeq, i64_w, -List.getD_eq_getElem?_getD]; intro h_; exact absurd (by omega) h_)) ?_
        refine rw_val (v := .bool hi) (w' := w_L31) rfl rfl rfl rfl rfl ?_
        have hq74 : hi = true := by rw [hf34, show j = l.length by omega, List.take_length]; rcases l with _ | ⟨s0_, l_⟩; rfl; obtain ⟨x_, hx_, he_⟩ := hI13.mxE (by simp); rw [Bool.or_eq_true]; exact .inr (List.any_eq_true.2 ⟨x_, hx_, by simp [he_]⟩)
        refine rw_on (c := hi) rfl rfl rfl (by first | (rw [hq74]; rfl) | simp [hq74]) ?_
        refine rw_val (v := .bool la) (w' := w_L31) rfl rfl rfl rfl rfl ?_
        refine rw_val (v := .bool la) (w' := w_L31) rfl rfl rfl rfl (by first | (simp [go_sem, sEv, sLook, nbeq, i64_w, -List.getD_eq_getElem?_getD, hq74]; done) | (rw [hq74]; simp [go_sem, sEv, sLook, nbeq, i64_w, -List.getD_eq_getElem?_getD]; done) | (simp [go_sem, sEv, sLook, nbeq, i64_w, -List.getD_eq_getElem?_getD] <;> omega) | (simp [go_sem, sEv, sLook, nbeq, i64_w, -List.getD_eq_getElem?_getD]; intro h_; exact absurd (by omega) h_)) ?_
        refine rw_val (v := .bool la) (w' := w_L31) rfl rfl rfl rfl rfl ?_
        refine rw_end ?_
        refine w_weaken (G' := [(2, .bool la)]) ⟨rfl, trivial⟩ ?_
        have hq75 : la = true := by rw [hf35, show j = l.length by omega, List.take_length]; rcases l with _ | ⟨s0_, l_⟩; rfl; obtain ⟨x_, hx_, he_⟩ := hI13.last (by simp); rw [Bool.or_eq_true]; exact .inr (List.any_eq_true.2 ⟨x_, hx_, by simp [he_]⟩)
        refine w_ret (post_ret1 rfl rfl ?_)
        exact ⟨by rw [show la = true from hq75], hB_L31⟩
end Go.Proofs.Ytheaipbnbnjlgaa.Ce
