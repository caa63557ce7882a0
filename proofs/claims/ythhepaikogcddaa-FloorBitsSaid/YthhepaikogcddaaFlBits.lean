/- How many binary digits: the walk. -/
import Derived.Test.YthhepaikogcddaaFlLaws
import Derived.Test.YthhepaikogcddaaFlRefB
namespace Go.Proofs.Ythhepaikogcddaa.PFloorGroup
open Go.RowKit Go.Proofs.YthhepaikogcddaaW.PrintWords Go.Proofs.YthhepaikogcddaaW.PrintLast Go.Proofs.YthhepaikogcddaaW.PrintMore
open Go.Proofs.Ythhepaikogcddaa.Flow
set_option linter.unusedVariables false
set_option linter.unusedSimpArgs false


/-- How many binary digits a number has. -/
def blen (n : Nat) : Nat := if n = 0 then 0 else n.log2 + 1
theorem blen_spec (n k : Nat) (h : n < 2 ^ k) (h2 : k = 0 ∨ 2 ^ (k - 1) ≤ n) : blen n = k := by
  unfold blen
  rcases h2 with h2 | h2
  · subst h2
    have : n = 0 := by omega
    rw [if_pos this]
  · have h0 : 0 < 2 ^ (k - 1) := Nat.two_pow_pos _
    rw [if_neg (by omega)]
    have h3 : n.log2 < k := (Nat.log2_lt (by omega)).2 h
    have h4 : k - 1 ≤ n.log2 := (Nat.le_log2 (by omega)).2 h2
    omega
theorem blen_lt (n : Nat) : n < 2 ^ blen n := by
  unfold blen
  split
  · omega
  · exact Nat.lt_log2_self
theorem blen_ge (n : Nat) (h : n ≠ 0) : 2 ^ (blen n - 1) ≤ n := by
  unfold blen
  rw [if_neg h]
  exact Nat.log2_self_le h
theorem blen_pos (n : Nat) (h : n ≠ 0) : 0 < blen n := by
  unfold blen
  rw [if_neg h]
  omega
theorem blen_le (n k : Nat) (h : n < 2 ^ k) : blen n ≤ k := by
  by_cases h0 : n = 0
  · subst h0
    simp [blen]
  · unfold blen
    rw [if_neg h0]
    have : n.log2 < k := (Nat.log2_lt h0).2 h
    omega
theorem blen_shift (n k : Nat) (h : 2 ^ k ≤ n) : blen n = k + blen (n / 2 ^ k) := by
  have hp : 0 < 2 ^ k := Nat.two_pow_pos _
  have h0 : n / 2 ^ k ≠ 0 := by
    have := (Nat.one_le_div_iff hp).2 h
    omega
  have h1 := blen_lt (n / 2 ^ k)
  have h2 := blen_ge (n / 2 ^ k) h0
  have h3 := blen_pos (n / 2 ^ k) h0
  refine blen_spec n _ ?_ (Or.inr ?_)
  · rw [Nat.pow_add]
    have := (Nat.div_lt_iff_lt_mul hp).1 h1
    rw [Nat.mul_comm]
    exact this
  · rw [show k + blen (n / 2 ^ k) - 1 = k + (blen (n / 2 ^ k) - 1) by omega, Nat.pow_add, Nat.mul_comm]
    exact (Nat.le_div_iff_mul_le hp).1 h2
theorem run_value {P : Program} {s : Sem Value} {v : Value} {w w' : World} (h : s.run P w = .ok v w') : (do pure (Next.value (← s)) : Sem Next).run P w = .ok (.value v) w' := by simp [h]
theorem tab_index {P : Program} {t : TypeId} {s : ByteArray} (hu : P.underlying t = some .string) (ht : (List.range 256).all (fun i => (s.get! i).toNat == blen i) = true) (hs : s.size = 256) (m : Nat) (h : m < 256) (w : World) :
    (Instr.index t (.string s) (.int .u8 (m : Int))).run P w = .ok (.int .u8 ((blen m : Nat) : Int)) w := by
  rw [run_index_string (w := w) t s .u8 (m : Int) hu, dif_pos ⟨by omega, by omega⟩]
  have h1 := List.all_eq_true.1 ht m (List.mem_range.2 h)
  have h2 : (s.get! m).toNat = blen m := by simpa using h1
  have h3 : s.get! m = s[m]'(by omega) := by
    show s.data[m]! = _
    rw [getElem!_pos s.data m (by show m < s.size; omega)]
    rfl
  rw [h3] at h2
  simp only [Int.toNat_natCast]
  rw [h2]
set_option maxRecDepth 100000 in
set_option maxHeartbeats 4000000 in
theorem len64_calls (n : Nat) (hn : n < 18446744073709551616) (w : World) :
    Calls Try.prog 38 #[.int .u64 (n : Int)] w fun e w' => e = .returned (.int .i64 ((blen n : Nat) : Int)) ∧ Below w.heap.size w w' := by
  refine calls_flow Try.func38 rfl 25 rfl (Nat.le_of_ble_eq_true rfl) [(0, .int .u64 (n : Int))] ?_ ?_
  · intro t v h; exact args_look rfl t v h
  refine w_seq ?_
  refine w_region ?_
  refine rw_val (v := .int .i64 0) (w' := w) rfl rfl rfl rfl rfl ?_
  refine rw_end ?_
  refine w_seq ?_
  refine w_seq ?_
  refine w_region ?_
  refine rw_val (v := .int .u64 (n : Int)) (w' := w) rfl rfl rfl rfl rfl ?_
  refine rw_val (v := .bool (decide (4294967296 ≤ (n : Int)))) (w' := w) rfl rfl rfl rfl (by simp [go_sem, sEv, sLook, nbeq, i64_w]) ?_
  refine rw_end ?_
  refine w_cond rfl rfl (fun c1 => ?_) (fun c1 => ?_)
  · refine w_seq ?_
    refine w_region ?_
    refine rw_val (v := .int .u64 (n : Int)) (w' := w) rfl rfl rfl rfl rfl ?_
    refine rw_val (v := .int .u64 ((n / 4294967296 : Nat) : Int)) (w' := w) rfl rfl rfl rfl (by simp [go_sem, sEv, sLook, nbeq, i64_w] <;> omega) ?_
    refine rw_val (v := .int .u64 ((n / 4294967296 : Nat) : Int)) (w' := w) rfl rfl rfl rfl rfl ?_
    refine rw_end ?_
    refine w_region ?_
    refine rw_val (v := .int .i64 32) (w' := w) rfl rfl rfl rfl rfl ?_
    refine rw_end ?_
    refine w_seq ?_
    refine w_seq ?_
    refine w_region ?_
    refine rw_val (v := .int .u64 ((n / 4294967296 : Nat) : Int)) (w' := w) rfl rfl rfl rfl rfl ?_
    refine rw_val (v := .bool (decide (65536 ≤ ((n / 4294967296 : Nat) : Int)))) (w' := w) rfl rfl rfl rfl (by simp [go_sem, sEv, sLook, nbeq, i64_w]) ?_
    refine rw_end ?_
    refine w_cond rfl rfl (fun c2 => ?_) (fun c2 => ?_)
    · refine w_seq ?_
      refine w_region ?_
      refine rw_val (v := .int .u64 ((n / 4294967296 : Nat) : Int)) (w' := w) rfl rfl rfl rfl rfl ?_
      refine rw_val (v := .int .u64 ((n / 4294967296 / 65536 : Nat) : Int)) (w' := w) rfl rfl rfl rfl (by simp [go_sem, sEv, sLook, nbeq, i64_w] <;> omega) ?_
      refine rw_val (v := .int .u64 ((n / 4294967296 / 65536 : Nat) : Int)) (w' := w) rfl rfl rfl rfl rfl ?_
      refine rw_end ?_
      refine w_region ?_
      refine rw_val (v := .int .i64 32) (w' := w) rfl rfl rfl rfl rfl ?_
      refine rw_val (v := .int .i64 48) (w' := w) rfl rfl rfl rfl (by kernel_rfl) ?_
      refine rw_val (v := .int .i64 48) (w' := w) rfl rfl rfl rfl rfl ?_
      refine rw_end ?_
      refine w_seq ?_
      refine w_seq ?_
      refine w_region ?_
      refine rw_val (v := .int .u64 ((n / 4294967296 / 65536 : Nat) : Int)) (w' := w) rfl rfl rfl rfl rfl ?_
      refine rw_val (v := .bool (decide (256 ≤ ((n / 4294967296 / 65536 : Nat) : Int)))) (w' := w) rfl rfl rfl rfl (by simp [go_sem, sEv, sLook, nbeq, i64_w]) ?_
      refine rw_end ?_
      refine w_cond rfl rfl (fun c3 => ?_) (fun c3 => ?_)
      · refine w_seq ?_
        refine w_region ?_
        refine rw_val (v := .int .u64 ((n / 4294967296 / 65536 : Nat) : Int)) (w' := w) rfl rfl rfl rfl rfl ?_
        refine rw_val (v := .int .u64 ((n / 4294967296 / 65536 / 256 : Nat) : Int)) (w' := w) rfl rfl rfl rfl (by simp [go_sem, sEv, sLook, nbeq, i64_w] <;> omega) ?_
        refine rw_val (v := .int .u64 ((n / 4294967296 / 65536 / 256 : Nat) : Int)) (w' := w) rfl rfl rfl rfl rfl ?_
        refine rw_end ?_
        refine w_region ?_
        refine rw_val (v := .int .i64 48) (w' := w) rfl rfl rfl rfl rfl ?_
        refine rw_val (v := .int .i64 56) (w' := w) rfl rfl rfl rfl (by kernel_rfl) ?_
        refine rw_val (v := .int .i64 56) (w' := w) rfl rfl rfl rfl rfl ?_
        refine rw_end ?_
        refine w_seq ?_
        refine w_region ?_
        refine rw_val (v := .int .i64 56) (w' := w) rfl rfl rfl rfl rfl ?_
        refine rw_val (v := .int .u64 ((n / 4294967296 / 65536 / 256 : Nat) : Int)) (w' := w) rfl rfl rfl rfl rfl ?_
        refine rw_val (v := .int .u8 ((n / 4294967296 / 65536 / 256 : Nat) : Int)) (w' := w) rfl rfl rfl rfl (by simp [go_sem, sEv, sLook, nbeq, i64_w]; exact u8_wrap _ (by omega) (by have := of_decide_eq_true c1; have := of_decide_eq_true c2; have := of_decide_eq_true c3; omega)) ?_
        refine rw_val (v := .int .u8 ((blen (n / 4294967296 / 65536 / 256) : Nat) : Int)) (w' := w) rfl rfl rfl rfl (by refine run_value (tab_index (P := Try.prog) ?_ ?_ ?_ (n / 4294967296 / 65536 / 256) ?_ _); kernel_rfl; decide +kernel; decide +kernel; (have := of_decide_eq_true c1; have := of_decide_eq_true c2; have := of_decide_eq_true c3; omega)) ?_
        refine rw_val (v := .int .i64 ((blen (n / 4294967296 / 65536 / 256) : Nat) : Int)) (w' := w) rfl rfl rfl rfl (by simp [go_sem, sEv, sLook, nbeq, i64_w]; exact wrap_id (by omega) (by have := blen_le (n / 4294967296 / 65536 / 256) 8 (by have := of_decide_eq_true c1; have := of_decide_eq_true c2; have := of_decide_eq_true c3; omega); omega)) ?_
        refine rw_val (v := .int .i64 (wrap64 (56 + ((blen (n / 4294967296 / 65536 / 256) : Nat) : Int)))) (w' := w) rfl rfl rfl rfl (by simp [go_sem, sEv, sLook, nbeq, i64_w]) ?_
        refine rw_val (v := .int .i64 (wrap64 (56 + ((blen (n / 4294967296 / 65536 / 256) : Nat) : Int)))) (w' := w) rfl rfl rfl rfl rfl ?_
        refine rw_end ?_
        refine w_weaken (G' := [(2, .int .i64 (wrap64 (56 + ((blen (n / 4294967296 / 65536 / 256) : Nat) : Int))))]) ⟨rfl, trivial⟩ ?_
        refine w_ret (post_ret1 rfl rfl ?_)
        have qc1 := of_decide_eq_true c1
        have qc2 := of_decide_eq_true c2
        have qc3 := of_decide_eq_true c3
        have b0_ := blen_shift (n) 32 (by have e_ := qc1; simp at e_ ⊢; omega)
        have b1_ := blen_shift (n / 4294967296) 16 (by have e_ := qc2; simp at e_ ⊢; omega)
        have b2_ := blen_shift ((n / 4294967296) / 65536) 8 (by have e_ := qc3; simp at e_ ⊢; omega)
        have hb_ := blen_le (((n / 4294967296) / 65536) / 256) 8 (by simp; omega)
        simp only [show (2 : Nat) ^ 32 = 4294967296 by decide, show (2 : Nat) ^ 16 = 65536 by decide, show (2 : Nat) ^ 8 = 256 by decide] at *
        refine ⟨?_, (Below.refl _ _)⟩
        congr 2
        unfold wrap64
        omega
      · refine w_skip ?_
        refine w_seq ?_
        refine w_region ?_
        refine rw_val (v := .int .i64 48) (w' := w) rfl rfl rfl rfl rfl ?_
        refine rw_val (v := .int .u64 ((n / 4294967296 / 65536 : Nat) : Int)) (w' := w) rfl rfl rfl rfl rfl ?_
        refine rw_val (v := .int .u8 ((n / 4294967296 / 65536 : Nat) : Int)) (w' := w) rfl rfl rfl rfl (by simp [go_sem, sEv, sLook, nbeq, i64_w]; exact u8_wrap _ (by omega) (by have := of_decide_eq_true c1; have := of_decide_eq_true c2; have := of_decide_eq_false c3; omega)) ?_
        refine rw_val (v := .int .u8 ((blen (n / 4294967296 / 65536) : Nat) : Int)) (w' := w) rfl rfl rfl rfl (by refine run_value (tab_index (P := Try.prog) ?_ ?_ ?_ (n / 4294967296 / 65536) ?_ _); kernel_rfl; decide +kernel; decide +kernel; (have := of_decide_eq_true c1; have := of_decide_eq_true c2; have := of_decide_eq_false c3; omega)) ?_
        refine rw_val (v := .int .i64 ((blen (n / 4294967296 / 65536) : Nat) : Int)) (w' := w) rfl rfl rfl rfl (by simp [go_sem, sEv, sLook, nbeq, i64_w]; exact wrap_id (by omega) (by have := blen_le (n / 4294967296 / 65536) 8 (by have := of_decide_eq_true c1; have := of_decide_eq_true c2; have := of_decide_eq_false c3; omega); omega)) ?_
        refine rw_val (v := .int .i64 (wrap64 (48 + ((blen (n / 4294967296 / 65536) : Nat) : Int)))) (w' := w) rfl rfl rfl rfl (by simp [go_sem, sEv, sLook, nbeq, i64_w]) ?_
        refine rw_val (v := .int .i64 (wrap64 (48 + ((blen (n / 4294967296 / 65536) : Nat) : Int)))) (w' := w) rfl rfl rfl rfl rfl ?_
        refine rw_end ?_
        refine w_weaken (G' := [(2, .int .i64 (wrap64 (48 + ((blen (n / 4294967296 / 65536) : Nat) : Int))))]) ⟨rfl, trivial⟩ ?_
        refine w_ret (post_ret1 rfl rfl ?_)
        have qc1 := of_decide_eq_true c1
        have qc2 := of_decide_eq_true c2
        have qc3 := of_decide_eq_false c3
        have b0_ := blen_shift (n) 32 (by have e_ := qc1; simp at e_ ⊢; omega)
        have b1_ := blen_shift (n / 4294967296) 16 (by have e_ := qc2; simp at e_ ⊢; omega)
        have hb_ := blen_le ((n / 4294967296) / 65536) 8 (by simp; omega)
        simp only [show (2 : Nat) ^ 32 = 4294967296 by decide, show (2 : Nat) ^ 16 = 65536 by decide, show (2 : Nat) ^ 8 = 256 by decide] at *
        refine ⟨?_, (Below.refl _ _)⟩
        congr 2
        unfold wrap64
        omega
    · refine w_skip ?_
      refine w_seq ?_
      refine w_seq ?_
      refine w_region ?_
      refine rw_val (v := .int .u64 ((n / 4294967296 : Nat) : Int)) (w' := w) rfl rfl rfl rfl rfl ?_
      refine rw_val (v := .bool (decide (256 ≤ ((n / 4294967296 : Nat) : Int)))) (w' := w) rfl rfl rfl rfl (by simp [go_sem, sEv, sLook, nbeq, i64_w]) ?_
      refine rw_end ?_
      refine w_cond rfl rfl (fun c4 => ?_) (fun c4 => ?_)
      · refine w_seq ?_
        refine w_region ?_
        refine rw_val (v := .int .u64 ((n / 4294967296 : Nat) : Int)) (w' := w) rfl rfl rfl rfl rfl ?_
        refine rw_val (v := .int .u64 ((n / 4294967296 / 256 : Nat) : Int)) (w' := w) rfl rfl rfl rfl (by simp [go_sem, sEv, sLook, nbeq, i64_w] <;> omega) ?_
        refine rw_val (v := .int .u64 ((n / 4294967296 / 256 : Nat) : Int)) (w' := w) rfl rfl rfl rfl rfl ?_
        refine rw_end ?_
        refine w_region ?_
        refine rw_val (v := .int .i64 32) (w' := w) rfl rfl rfl rfl rfl ?_
        refine rw_val (v := .int .i64 40) (w' := w) rfl rfl rfl rfl (by kernel_rfl) ?_
        refine rw_val (v := .int .i64 40) (w' := w) rfl rfl rfl rfl rfl ?_
        refine rw_end ?_
        refine w_seq ?_
        refine w_region ?_
        refine rw_val (v := .int .i64 40) (w' := w) rfl rfl rfl rfl rfl ?_
        refine rw_val (v := .int .u64 ((n / 4294967296 / 256 : Nat) : Int)) (w' := w) rfl rfl rfl rfl rfl ?_
        refine rw_val (v := .int .u8 ((n / 4294967296 / 256 : Nat) : Int)) (w' := w) rfl rfl rfl rfl (by simp [go_sem, sEv, sLook, nbeq, i64_w]; exact u8_wrap _ (by omega) (by have := of_decide_eq_true c1; have := of_decide_eq_false c2; have := of_decide_eq_true c4; omega)) ?_
        refine rw_val (v := .int .u8 ((blen (n / 4294967296 / 256) : Nat) : Int)) (w' := w) rfl rfl rfl rfl (by refine run_value (tab_index (P := Try.prog) ?_ ?_ ?_ (n / 4294967296 / 256) ?_ _); kernel_rfl; decide +kernel; decide +kernel; (have := of_decide_eq_true c1; have := of_decide_eq_false c2; have := of_decide_eq_true c4; omega)) ?_
        refine rw_val (v := .int .i64 ((blen (n / 4294967296 / 256) : Nat) : Int)) (w' := w) rfl rfl rfl rfl (by simp [go_sem, sEv, sLook, nbeq, i64_w]; exact wrap_id (by omega) (by have := blen_le (n / 4294967296 / 256) 8 (by have := of_decide_eq_true c1; have := of_decide_eq_false c2; have := of_decide_eq_true c4; omega); omega)) ?_
        refine rw_val (v := .int .i64 (wrap64 (40 + ((blen (n / 4294967296 / 256) : Nat) : Int)))) (w' := w) rfl rfl rfl rfl (by simp [go_sem, sEv, sLook, nbeq, i64_w]) ?_
        refine rw_val (v := .int .i64 (wrap64 (40 + ((blen (n / 4294967296 / 256) : Nat) : Int)))) (w' := w) rfl rfl rfl rfl rfl ?_
        refine rw_end ?_
        refine w_weaken (G' := [(2, .int .i64 (wrap64 (40 + ((blen (n / 4294967296 / 256) : Nat) : Int))))]) ⟨rfl, trivial⟩ ?_
        refine w_ret (post_ret1 rfl rfl ?_)
        have qc1 := of_decide_eq_true c1
        have qc2 := of_decide_eq_false c2
        have qc4 := of_decide_eq_true c4
        have b0_ := blen_shift (n) 32 (by have e_ := qc1; simp at e_ ⊢; omega)
        have b1_ := blen_shift (n / 4294967296) 8 (by have e_ := qc4; simp at e_ ⊢; omega)
        have hb_ := blen_le ((n / 4294967296) / 256) 8 (by simp; omega)
        simp only [show (2 : Nat) ^ 32 = 4294967296 by decide, show (2 : Nat) ^ 16 = 65536 by decide, show (2 : Nat) ^ 8 = 256 by decide] at *
        refine ⟨?_, (Below.refl _ _)⟩
        congr 2
        unfold wrap64
        omega
      · refine w_skip ?_
        refine w_seq ?_
        refine w_region ?_
        refine rw_val (v := .int .i64 32) (w' := w) rfl rfl rfl rfl rfl ?_
        refine rw_val (v := .int .u64 ((n / 4294967296 : Nat) : Int)) (w' := w) rfl rfl rfl rfl rfl ?_
        refine rw_val (v := .int .u8 ((n / 4294967296 : Nat) : Int)) (w' := w) rfl rfl rfl rfl (by simp [go_sem, sEv, sLook, nbeq, i64_w]; exact u8_wrap _ (by omega) (by have := of_decide_eq_true c1; have := of_decide_eq_false c2; have := of_decide_eq_false c4; omega)) ?_
        refine rw_val (v := .int .u8 ((blen (n / 4294967296) : Nat) : Int)) (w' := w) rfl rfl rfl rfl (by refine run_value (tab_index (P := Try.prog) ?_ ?_ ?_ (n / 4294967296) ?_ _); kernel_rfl; decide +kernel; decide +kernel; (have := of_decide_eq_true c1; have := of_decide_eq_false c2; have := of_decide_eq_false c4; omega)) ?_
        refine rw_val (v := .int .i64 ((blen (n / 4294967296) : Nat) : Int)) (w' := w) rfl rfl rfl rfl (by simp [go_sem, sEv, sLook, nbeq, i64_w]; exact wrap_id (by omega) (by have := blen_le (n / 4294967296) 8 (by have := of_decide_eq_true c1; have := of_decide_eq_false c2; have := of_decide_eq_false c4; omega); omega)) ?_
        refine rw_val (v := .int .i64 (wrap64 (32 + ((blen (n / 4294967296) : Nat) : Int)))) (w' := w) rfl rfl rfl rfl (by simp [go_sem, sEv, sLook, nbeq, i64_w]) ?_
        refine rw_val (v := .int .i64 (wrap64 (32 + ((blen (n / 4294967296) : Nat) : Int)))) (w' := w) rfl rfl rfl rfl rfl ?_
        refine rw_end ?_
        refine w_weaken (G' := [(2, .int .i64 (wrap64 (32 + ((blen (n / 4294967296) : Nat) : Int))))]) ⟨rfl, trivial⟩ ?_
        refine w_ret (post_ret1 rfl rfl ?_)
        have qc1 := of_decide_eq_true c1
        have qc2 := of_decide_eq_false c2
        have qc4 := of_decide_eq_false c4
        have b0_ := blen_shift (n) 32 (by have e_ := qc1; simp at e_ ⊢; omega)
        have hb_ := blen_le (n / 4294967296) 8 (by simp; omega)
        simp only [show (2 : Nat) ^ 32 = 4294967296 by decide, show (2 : Nat) ^ 16 = 65536 by decide, show (2 : Nat) ^ 8 = 256 by decide] at *
        refine ⟨?_, (Below.refl _ _)⟩
        congr 2
        unfold wrap64
        omega
  · refine w_skip ?_
    refine w_seq ?_
    refine w_seq ?_
    refine w_region ?_
    refine rw_val (v := .int .u64 (n : Int)) (w' := w) rfl rfl rfl rfl rfl ?_
    refine rw_val (v := .bool (decide (65536 ≤ (n : Int)))) (w' := w) rfl rfl rfl rfl (by simp [go_sem, sEv, sLook, nbeq, i64_w]) ?_
    refine rw_end ?_
    refine w_cond rfl rfl (fun c5 => ?_) (fun c5 => ?_)
    · refine w_seq ?_
      refine w_region ?_
      refine rw_val (v := .int .u64 (n : Int)) (w' := w) rfl rfl rfl rfl rfl ?_
      refine rw_val (v := .int .u64 ((n / 65536 : Nat) : Int)) (w' := w) rfl rfl rfl rfl (by simp [go_sem, sEv, sLook, nbeq, i64_w] <;> omega) ?_
      refine rw_val (v := .int .u64 ((n / 65536 : Nat) : Int)) (w' := w) rfl rfl rfl rfl rfl ?_
      refine rw_end ?_
      refine w_region ?_
      refine rw_val (v := .int .i64 0) (w' := w) rfl rfl rfl rfl rfl ?_
      refine rw_val (v := .int .i64 16) (w' := w) rfl rfl rfl rfl (by kernel_rfl) ?_
      refine rw_val (v := .int .i64 16) (w' := w) rfl rfl rfl rfl rfl ?_
      refine rw_end ?_
      refine w_seq ?_
      refine w_seq ?_
      refine w_region ?_
      refine rw_val (v := .int .u64 ((n / 65536 : Nat) : Int)) (w' := w) rfl rfl rfl rfl rfl ?_
      refine rw_val (v := .bool (decide (256 ≤ ((n / 65536 : Nat) : Int)))) (w' := w) rfl rfl rfl rfl (by simp [go_sem, sEv, sLook, nbeq, i64_w]) ?_
      refine rw_end ?_
      refine w_cond rfl rfl (fun c6 => ?_) (fun c6 => ?_)
      · refine w_seq ?_
        refine w_region ?_
        refine rw_val (v := .int .u64 ((n / 65536 : Nat) : Int)) (w' := w) rfl rfl rfl rfl rfl ?_
        refine rw_val (v := .int .u64 ((n / 65536 / 256 : Nat) : Int)) (w' := w) rfl rfl rfl rfl (by simp [go_sem, sEv, sLook, nbeq, i64_w] <;> omega) ?_
        refine rw_val (v := .int .u64 ((n / 65536 / 256 : Nat) : Int)) (w' := w) rfl rfl rfl rfl rfl ?_
        refine rw_end ?_
        refine w_region ?_
        refine rw_val (v := .int .i64 16) (w' := w) rfl rfl rfl rfl rfl ?_
        refine rw_val (v := .int .i64 24) (w' := w) rfl rfl rfl rfl (by kernel_rfl) ?_
        refine rw_val (v := .int .i64 24) (w' := w) rfl rfl rfl rfl rfl ?_
        refine rw_end ?_
        refine w_seq ?_
        refine w_region ?_
        refine rw_val (v := .int .i64 24) (w' := w) rfl rfl rfl rfl rfl ?_
        refine rw_val (v := .int .u64 ((n / 65536 / 256 : Nat) : Int)) (w' := w) rfl rfl rfl rfl rfl ?_
        refine rw_val (v := .int .u8 ((n / 65536 / 256 : Nat) : Int)) (w' := w) rfl rfl rfl rfl (by simp [go_sem, sEv, sLook, nbeq, i64_w]; exact u8_wrap _ (by omega) (by have := of_decide_eq_false c1; have := of_decide_eq_true c5; have := of_decide_eq_true c6; omega)) ?_
        refine rw_val (v := .int .u8 ((blen (n / 65536 / 256) : Nat) : Int)) (w' := w) rfl rfl rfl rfl (by refine run_value (tab_index (P := Try.prog) ?_ ?_ ?_ (n / 65536 / 256) ?_ _); kernel_rfl; decide +kernel; decide +kernel; (have := of_decide_eq_false c1; have := of_decide_eq_true c5; have := of_decide_eq_true c6; omega)) ?_
        refine rw_val (v := .int .i64 ((blen (n / 65536 / 256) : Nat) : Int)) (w' := w) rfl rfl rfl rfl (by simp [go_sem, sEv, sLook, nbeq, i64_w]; exact wrap_id (by omega) (by have := blen_le (n / 65536 / 256) 8 (by have := of_decide_eq_false c1; have := of_decide_eq_true c5; have := of_decide_eq_true c6; omega); omega)) ?_
        refine rw_val (v := .int .i64 (wrap64 (24 + ((blen (n / 65536 / 256) : Nat) : Int)))) (w' := w) rfl rfl rfl rfl (by simp [go_sem, sEv, sLook, nbeq, i64_w]) ?_
        refine rw_val (v := .int .i64 (wrap64 (24 + ((blen (n / 65536 / 256) : Nat) : Int)))) (w' := w) rfl rfl rfl rfl rfl ?_
        refine rw_end ?_
        refine w_weaken (G' := [(2, .int .i64 (wrap64 (24 + ((blen (n / 65536 / 256) : Nat) : Int))))]) ⟨rfl, trivial⟩ ?_
        refine w_ret (post_ret1 rfl rfl ?_)
        have qc1 := of_decide_eq_false c1
        have qc5 := of_decide_eq_true c5
        have qc6 := of_decide_eq_true c6
        have b0_ := blen_shift (n) 16 (by have e_ := qc5; simp at e_ ⊢; omega)
        have b1_ := blen_shift (n / 65536) 8 (by have e_ := qc6; simp at e_ ⊢; omega)
        have hb_ := blen_le ((n / 65536) / 256) 8 (by simp; omega)
        simp only [show (2 : Nat) ^ 32 = 4294967296 by decide, show (2 : Nat) ^ 16 = 65536 by decide, show (2 : Nat) ^ 8 = 256 by decide] at *
        refine ⟨?_, (Below.refl _ _)⟩
        congr 2
        unfold wrap64
        omega
      · refine w_skip ?_
        refine w_seq ?_
        refine w_region ?_
        refine rw_val (v := .int .i64 16) (w' := w) rfl rfl rfl rfl rfl ?_
        refine rw_val (v := .int .u64 ((n / 65536 : Nat) : Int)) (w' := w) rfl rfl rfl rfl rfl ?_
        refine rw_val (v := .int .u8 ((n / 65536 : Nat) : Int)) (w' := w) rfl rfl rfl rfl (by simp [go_sem, sEv, sLook, nbeq, i64_w]; exact u8_wrap _ (by omega) (by have := of_decide_eq_false c1; have := of_decide_eq_true c5; have := of_decide_eq_false c6; omega)) ?_
        refine rw_val (v := .int .u8 ((blen (n / 65536) : Nat) : Int)) (w' := w) rfl rfl rfl rfl (by refine run_value (tab_index (P := Try.prog) ?_ ?_ ?_ (n / 65536) ?_ _); kernel_rfl; decide +kernel; decide +kernel; (have := of_decide_eq_false c1; have := of_decide_eq_true c5; have := of_decide_eq_false c6; omega)) ?_
        refine rw_val (v := .int .i64 ((blen (n / 65536) : Nat) : Int)) (w' := w) rfl rfl rfl rfl (by simp [go_sem, sEv, sLook, nbeq, i64_w]; exact wrap_id (by omega) (by have := blen_le (n / 65536) 8 (by have := of_decide_eq_false c1; have := of_decide_eq_true c5; have := of_decide_eq_false c6; omega); omega)) ?_
        refine rw_val (v := .int .i64 (wrap64 (16 + ((blen (n / 65536) : Nat) : Int)))) (w' := w) rfl rfl rfl rfl (by simp [go_sem, sEv, sLook, nbeq, i64_w]) ?_
        refine rw_val (v := .int .i64 (wrap64 (16 + ((blen (n / 65536) : Nat) : Int)))) (w' := w) rfl rfl rfl rfl rfl ?_
        refine rw_end ?_
        refine w_weaken (G' := [(2, .int .i64 (wrap64 (16 + ((blen (n / 65536) : Nat) : Int))))]) ⟨rfl, trivial⟩ ?_
        refine w_ret (post_ret1 rfl rfl ?_)
        have qc1 := of_decide_eq_false c1
        have qc5 := of_decide_eq_true c5
        have qc6 := of_decide_eq_false c6
        have b0_ := blen_shift (n) 16 (by have e_ := qc5; simp at e_ ⊢; omega)
        have hb_ := blen_le (n / 65536) 8 (by simp; omega)
        simp only [show (2 : Nat) ^ 32 = 4294967296 by decide, show (2 : Nat) ^ 16 = 65536 by decide, show (2 : Nat) ^ 8 = 256 by decide] at *
        refine ⟨?_, (Below.refl _ _)⟩
        congr 2
        unfold wrap64
        omega
    · refine w_skip ?_
      refine w_seq ?_
      refine w_seq ?_
      refine w_region ?_
      refine rw_val (v := .int .u64 (n : Int)) (w' := w) rfl rfl rfl rfl rfl ?_
      refine rw_val (v := .bool (decide (256 ≤ (n : Int)))) (w' := w) rfl rfl rfl rfl (by simp [go_sem, sEv, sLook, nbeq, i64_w]) ?_
      refine rw_end ?_
      refine w_cond rfl rfl (fun c7 => ?_) (fun c7 => ?_)
      · refine w_seq ?_
        refine w_region ?_
        refine rw_val (v := .int .u64 (n : Int)) (w' := w) rfl rfl rfl rfl rfl ?_
        refine rw_val (v := .int .u64 ((n / 256 : Nat) : Int)) (w' := w) rfl rfl rfl rfl (by simp [go_sem, sEv, sLook, nbeq, i64_w] <;> omega) ?_
        refine rw_val (v := .int .u64 ((n / 256 : Nat) : Int)) (w' := w) rfl rfl rfl rfl rfl ?_
        refine rw_end ?_
        refine w_region ?_
        refine rw_val (v := .int .i64 0) (w' := w) rfl rfl rfl rfl rfl ?_
        refine rw_val (v := .int .i64 8) (w' := w) rfl rfl rfl rfl (by kernel_rfl) ?_
        refine rw_val (v := .int .i64 8) (w' := w) rfl rfl rfl rfl rfl ?_
        refine rw_end ?_
        refine w_seq ?_
        refine w_region ?_
        refine rw_val (v := .int .i64 8) (w' := w) rfl rfl rfl rfl rfl ?_
        refine rw_val (v := .int .u64 ((n / 256 : Nat) : Int)) (w' := w) rfl rfl rfl rfl rfl ?_
        refine rw_val (v := .int .u8 ((n / 256 : Nat) : Int)) (w' := w) rfl rfl rfl rfl (by simp [go_sem, sEv, sLook, nbeq, i64_w]; exact u8_wrap _ (by omega) (by have := of_decide_eq_false c1; have := of_decide_eq_false c5; have := of_decide_eq_true c7; omega)) ?_
        refine rw_val (v := .int .u8 ((blen (n / 256) : Nat) : Int)) (w' := w) rfl rfl rfl rfl (by refine run_value (tab_index (P := Try.prog) ?_ ?_ ?_ (n / 256) ?_ _); kernel_rfl; decide +kernel; decide +kernel; (have := of_decide_eq_false c1; have := of_decide_eq_false c5; have := of_decide_eq_true c7; omega)) ?_
        refine rw_val (v := .int .i64 ((blen (n / 256) : Nat) : Int)) (w' := w) rfl rfl rfl rfl (by simp [go_sem, sEv, sLook, nbeq, i64_w]; exact wrap_id (by omega) (by have := blen_le (n / 256) 8 (by have := of_decide_eq_false c1; have := of_decide_eq_false c5; have := of_decide_eq_true c7; omega); omega)) ?_
        refine rw_val (v := .int .i64 (wrap64 (8 + ((blen (n / 256) : Nat) : Int)))) (w' := w) rfl rfl rfl rfl (by simp [go_sem, sEv, sLook, nbeq, i64_w]) ?_
        refine rw_val (v := .int .i64 (wrap64 (8 + ((blen (n / 256) : Nat) : Int)))) (w' := w) rfl rfl rfl rfl rfl ?_
        refine rw_end ?_
        refine w_weaken (G' := [(2, .int .i64 (wrap64 (8 + ((blen (n / 256) : Nat) : Int))))]) ⟨rfl, trivial⟩ ?_
        refine w_ret (post_ret1 rfl rfl ?_)
        have qc1 := of_decide_eq_false c1
        have qc5 := of_decide_eq_false c5
        have qc7 := of_decide_eq_true c7
        have b0_ := blen_shift (n) 8 (by have e_ := qc7; simp at e_ ⊢; omega)
        have hb_ := blen_le (n / 256) 8 (by simp; omega)
        simp only [show (2 : Nat) ^ 32 = 4294967296 by decide, show (2 : Nat) ^ 16 = 65536 by decide, show (2 : Nat) ^ 8 = 256 by decide] at *
        refine ⟨?_, (Below.refl _ _)⟩
        congr 2
        unfold wrap64
        omega
      · refine w_skip ?_
        refine w_seq ?_
        refine w_region ?_
        refine rw_val (v := .int .i64 0) (w' := w) rfl rfl rfl rfl rfl ?_
        refine rw_val (v := .int .u64 (n : Int)) (w' := w) rfl rfl rfl rfl rfl ?_
        refine rw_val (v := .int .u8 ((n : Nat) : Int)) (w' := w) rfl rfl rfl rfl (by simp [go_sem, sEv, sLook, nbeq, i64_w]; exact u8_wrap _ (by omega) (by have := of_decide_eq_false c1; have := of_decide_eq_false c5; have := of_decide_eq_false c7; omega)) ?_
        refine rw_val (v := .int .u8 ((blen (n) : Nat) : Int)) (w' := w) rfl rfl rfl rfl (by refine run_value (tab_index (P := Try.prog) ?_ ?_ ?_ (n) ?_ _); kernel_rfl; decide +kernel; decide +kernel; (have := of_decide_eq_false c1; have := of_decide_eq_false c5; have := of_decide_eq_false c7; omega)) ?_
        refine rw_val (v := .int .i64 ((blen (n) : Nat) : Int)) (w' := w) rfl rfl rfl rfl (by simp [go_sem, sEv, sLook, nbeq, i64_w]; exact wrap_id (by omega) (by have := blen_le (n) 8 (by have := of_decide_eq_false c1; have := of_decide_eq_false c5; have := of_decide_eq_false c7; omega); omega)) ?_
        refine rw_val (v := .int .i64 (wrap64 (0 + ((blen (n) : Nat) : Int)))) (w' := w) rfl rfl rfl rfl (by simp [go_sem, sEv, sLook, nbeq, i64_w]) ?_
        refine rw_val (v := .int .i64 (wrap64 (0 + ((blen (n) : Nat) : Int)))) (w' := w) rfl rfl rfl rfl rfl ?_
        refine rw_end ?_
        refine w_weaken (G' := [(2, .int .i64 (wrap64 (0 + ((blen (n) : Nat) : Int))))]) ⟨rfl, trivial⟩ ?_
        refine w_ret (post_ret1 rfl rfl ?_)
        have qc1 := of_decide_eq_false c1
        have qc5 := of_decide_eq_false c5
        have qc7 := of_decide_eq_false c7
        have hb_ := blen_le (n) 8 (by simp; omega)
        simp only [show (2 : Nat) ^ 32 = 4294967296 by decide, show (2 : Nat) ^ 16 = 65536 by decide, show (2 : Nat) ^ 8 = 256 by decide] at *
        refine ⟨?_, (Below.refl _ _)⟩
        congr 2
        unfold wrap64
        omega

theorem xor_max (x : Int) (h1 : 0 ≤ x) (h2 : x < 18446744073709551616) : bits .xor .u64 x 18446744073709551615 = 18446744073709551615 - x := by
  show IntKind.u64.wrap ((BitVec.ofInt 64 x ^^^ BitVec.ofInt 64 18446744073709551615).toNat : Int) = _
  have h3 : BitVec.ofInt 64 18446744073709551615 = BitVec.allOnes 64 := by decide
  rw [h3, BitVec.xor_allOnes, BitVec.toNat_not, BitVec.toNat_ofInt, IntKind.wrap_u64]
  omega
theorem xor_nil (x : Int) (h1 : 0 ≤ x) (h2 : x < 18446744073709551616) : bits .xor .u64 x 0 = x := by
  show IntKind.u64.wrap ((BitVec.ofInt 64 x ^^^ BitVec.ofInt 64 0).toNat : Int) = _
  have h3 : BitVec.ofInt 64 0 = 0#64 := by decide
  rw [h3, BitVec.xor_zero, BitVec.toNat_ofInt, IntKind.wrap_u64]
  omega
set_option maxHeartbeats 4000000 in
theorem bits_pos (m : Nat) (h1 : m ≤ 9223372036854775807) (w : World) :
    Calls Try.prog 28 #[.int .i64 (m : Int)] w fun e w' => e = .returned (.int .i64 ((blen m : Nat) : Int)) ∧ Below w.heap.size w w' := by
  refine calls_flow Try.func28 rfl 14 rfl (Nat.le_of_ble_eq_true rfl) [(0, .int .i64 (m : Int))] ?_ ?_
  · intro t v h; exact args_look rfl t v h
  refine w_seq ?_
  refine w_region ?_
  refine rw_val (v := .int .i64 0) (w' := w) rfl rfl rfl rfl rfl ?_
  refine rw_end ?_
  refine w_seq ?_
  refine w_region ?_
  refine rw_val (v := .int .i64 (m : Int)) (w' := w) rfl rfl rfl rfl rfl ?_
  refine rw_val (v := .int .i64 0) (w' := w) rfl rfl rfl rfl (by simp [go_sem, sEv, sLook, nbeq, i64_w] <;> omega) ?_
  refine rw_val (v := .int .u64 0) (w' := w) rfl rfl rfl rfl (by simp [go_sem, sEv, sLook, nbeq, i64_w] <;> (try rw [u64_wrap]) <;> omega) ?_
  refine rw_val (v := .int .u64 0) (w' := w) rfl rfl rfl rfl rfl ?_
  refine rw_end ?_
  refine w_weaken (G' := [(0, .int .i64 (m : Int)), (2, .int .i64 0), (3, .int .u64 0)]) ⟨rfl, rfl, rfl, trivial⟩ ?_
  refine w_seq ?_
  refine w_region ?_
  refine rw_val (v := .int .i64 (m : Int)) (w' := w) rfl rfl rfl rfl rfl ?_
  refine rw_val (v := .int .u64 (m : Int)) (w' := w) rfl rfl rfl rfl (by simp [go_sem, sEv, sLook, nbeq, i64_w] <;> (try rw [u64_wrap]) <;> omega) ?_
  refine rw_val (v := .int .u64 0) (w' := w) rfl rfl rfl rfl rfl ?_
  refine rw_val (v := .int .u64 (m : Int)) (w' := w) rfl rfl rfl rfl (by simp [go_sem, sEv, sLook, nbeq, i64_w]; exact xor_nil _ (by omega) (by omega)) ?_
  refine rw_val (v := .int .u64 0) (w' := w) rfl rfl rfl rfl rfl ?_
  refine rw_val (v := .int .u64 (m : Int)) (w' := w) rfl rfl rfl rfl (by simp [go_sem, sEv, sLook, nbeq, i64_w] <;> (try rw [u64_wrap]) <;> omega) ?_
  refine rw_call rfl rfl rfl rfl (f := 38) (args := #[.int .u64 (m : Int)]) (by simp [go_sem, sEv, sLook, nbeq, i64_w]) (len64_calls m (by omega) w) ?_
  rintro e_ w1 ⟨rfl, hb2⟩
  refine ⟨_, rfl, ?_⟩
  have hs_w1 := hb2.size
  refine rw_val (v := .int .i64 ((blen m : Nat) : Int)) (w' := w1) rfl rfl rfl rfl rfl ?_
  refine rw_end ?_
  refine w_weaken (G' := [(2, .int .i64 ((blen m : Nat) : Int))]) ⟨rfl, trivial⟩ ?_
  refine w_ret (post_ret1 rfl rfl ?_)
  exact ⟨rfl, hb2⟩
set_option maxHeartbeats 4000000 in
theorem bits_neg (m : Nat) (h1 : 1 ≤ m ∧ m ≤ 9223372036854775808) (w : World) :
    Calls Try.prog 28 #[.int .i64 (-(m : Int))] w fun e w' => e = .returned (.int .i64 ((blen m : Nat) : Int)) ∧ Below w.heap.size w w' := by
  refine calls_flow Try.func28 rfl 14 rfl (Nat.le_of_ble_eq_true rfl) [(0, .int .i64 (-(m : Int)))] ?_ ?_
  · intro t v h; exact args_look rfl t v h
  refine w_seq ?_
  refine w_region ?_
  refine rw_val (v := .int .i64 0) (w' := w) rfl rfl rfl rfl rfl ?_
  refine rw_end ?_
  refine w_seq ?_
  refine w_region ?_
  refine rw_val (v := .int .i64 (-(m : Int))) (w' := w) rfl rfl rfl rfl rfl ?_
  refine rw_val (v := .int .i64 (-1)) (w' := w) rfl rfl rfl rfl (by simp [go_sem, sEv, sLook, nbeq, i64_w] <;> omega) ?_
  refine rw_val (v := .int .u64 18446744073709551615) (w' := w) rfl rfl rfl rfl (by simp [go_sem, sEv, sLook, nbeq, i64_w] <;> (try rw [u64_wrap]) <;> omega) ?_
  refine rw_val (v := .int .u64 18446744073709551615) (w' := w) rfl rfl rfl rfl rfl ?_
  refine rw_end ?_
  refine w_weaken (G' := [(0, .int .i64 (-(m : Int))), (2, .int .i64 0), (3, .int .u64 18446744073709551615)]) ⟨rfl, rfl, rfl, trivial⟩ ?_
  refine w_seq ?_
  refine w_region ?_
  refine rw_val (v := .int .i64 (-(m : Int))) (w' := w) rfl rfl rfl rfl rfl ?_
  refine rw_val (v := .int .u64 (18446744073709551616 - (m : Int))) (w' := w) rfl rfl rfl rfl (by simp [go_sem, sEv, sLook, nbeq, i64_w] <;> (try rw [u64_wrap]) <;> omega) ?_
  refine rw_val (v := .int .u64 18446744073709551615) (w' := w) rfl rfl rfl rfl rfl ?_
  refine rw_val (v := .int .u64 ((m : Int) - 1)) (w' := w) rfl rfl rfl rfl (by simp [go_sem, sEv, sLook, nbeq, i64_w]; rw [xor_max _ (by omega) (by omega)]; omega) ?_
  refine rw_val (v := .int .u64 18446744073709551615) (w' := w) rfl rfl rfl rfl rfl ?_
  refine rw_val (v := .int .u64 (m : Int)) (w' := w) rfl rfl rfl rfl (by simp [go_sem, sEv, sLook, nbeq, i64_w] <;> (try rw [u64_wrap]) <;> omega) ?_
  refine rw_call rfl rfl rfl rfl (f := 38) (args := #[.int .u64 (m : Int)]) (by simp [go_sem, sEv, sLook, nbeq, i64_w]) (len64_calls m (by omega) w) ?_
  rintro e_ w1 ⟨rfl, hb2⟩
  refine ⟨_, rfl, ?_⟩
  have hs_w1 := hb2.size
  refine rw_val (v := .int .i64 ((blen m : Nat) : Int)) (w' := w1) rfl rfl rfl rfl rfl ?_
  refine rw_end ?_
  refine w_weaken (G' := [(2, .int .i64 ((blen m : Nat) : Int))]) ⟨rfl, trivial⟩ ?_
  refine w_ret (post_ret1 rfl rfl ?_)
  exact ⟨rfl, hb2⟩

theorem bits_calls (n : Int) (h : -9223372036854775808 ≤ n ∧ n ≤ 9223372036854775807) (w : World) :
    Calls Try.prog 28 #[.int .i64 n] w fun e w' => e = .returned (.int .i64 ((blen n.natAbs : Nat) : Int)) ∧ Below w.heap.size w w' := by
  by_cases h0 : 0 ≤ n
  · obtain ⟨m, rfl⟩ := Int.eq_ofNat_of_zero_le h0
    exact bits_pos m (by omega) w
  · obtain ⟨m, hm⟩ := Int.eq_ofNat_of_zero_le (show 0 ≤ -n by omega)
    obtain rfl : n = -(m : Int) := by omega
    have h1 := bits_neg m (by omega) w
    rw [show (-(m : Int)).natAbs = m by omega]
    exact h1
theorem blen_half (n : Nat) (h : n ≠ 0) : blen n = blen (n / 2) + 1 := by
  by_cases h1 : n = 1
  · subst h1
    decide
  · have := blen_shift n 1 (by omega)
    rw [this]
    simp
    omega
theorem ref_l1 : ∀ (k n : Nat) (j : Nat), n < 2 ^ k → n ≤ 9223372036854775807 → j + k ≤ 100 → estuaryref01_Bits.l1 (k + 1) (n : Int) (j : Int) = some ((j + blen n : Nat) : Int)
  | k, 0, j, _, _, _ => by simp [estuaryref01_Bits.l1, blen]
  | 0, n + 1, j, h, _, _ => by simp at h
  | k + 1, n + 1, j, h, hn, hj => by
    rw [estuaryref01_Bits.l1, if_pos (by omega)]
    have e1 : wrap64 (Int.tdiv ((n + 1 : Nat) : Int) 2) = (((n + 1) / 2 : Nat) : Int) := by
      rw [Int.tdiv_eq_ediv_of_nonneg (by omega)]
      unfold wrap64
      omega
    have e2 : wrap64 ((j : Int) + 1) = ((j + 1 : Nat) : Int) := by
      unfold wrap64
      omega
    rw [e1, e2, ref_l1 k ((n + 1) / 2) (j + 1) (by rw [Nat.pow_succ] at h; omega) (by omega) (by omega), blen_half (n + 1) (by omega)]
    congr 2
    omega
/- the amount less one, m: p = 2 ^ j - 1 -/
theorem ref_l0 : ∀ (k m j : Nat), m ≤ 9223372036854775807 → 2 ^ j ≤ 2 * m + 1 → 64 ≤ j + k → estuaryref01_Bits.l0 (k + 1) (m : Int) (j : Int) (((2 : Int) ^ j) - 1) = some ((blen (m + 1) : Nat) : Int)
  | k, m, j, hm, hj, hk => by
    have hz : (2 : Int) ^ j = ((2 ^ j : Nat) : Int) := by push_cast; rfl
    have hp : 0 < 2 ^ j := Nat.two_pow_pos _
    rw [estuaryref01_Bits.l0]
    by_cases h1 : ((2 : Int) ^ j) - 1 < (m : Int)
    · rw [if_pos h1]
      have hj63 : j < 63 := by
        rcases Nat.lt_or_ge j 63 with hc | hc
        · exact hc
        exfalso
        have : (2 : Nat) ^ 63 ≤ 2 ^ j := Nat.pow_le_pow_right (by omega) (by omega)
        simp at this
        omega
      have hp62 : 2 ^ j ≤ 4611686018427387904 := by
        have := Nat.pow_le_pow_right (n := 2) (by omega) (show j ≤ 62 by omega)
        simpa using this
      obtain ⟨k', rfl⟩ : ∃ k', k = k' + 1 := ⟨k - 1, by omega⟩
      have h2 : 2 ^ (j + 1) = 2 ^ j * 2 := Nat.pow_succ 2 j
      have e1 : wrap64 ((j : Int) + 1) = ((j + 1 : Nat) : Int) := by unfold wrap64; omega
      have e2 : wrap64 ((wrap64 (2 * (((2 : Int) ^ j) - 1))) + 1) = ((2 : Int) ^ (j + 1)) - 1 := by
        rw [Int.pow_succ, hz]
        unfold wrap64
        omega
      rw [e1, e2]
      exact ref_l0 k' m (j + 1) hm (by omega) (by omega)
    · rw [if_neg h1]
      have hj64 : j ≤ 64 := by
        rcases Nat.lt_or_ge 64 j with hc | hc
        rotate_left
        · exact hc
        exfalso
        have : (2 : Nat) ^ 65 ≤ 2 ^ j := Nat.pow_le_pow_right (by omega) (by omega)
        simp at this
        omega
      by_cases h3 : ((2 : Int) ^ j) - 1 = (m : Int)
      · rw [if_pos h3]
        have e1 : wrap64 ((j : Int) + 1) = ((j + 1 : Nat) : Int) := by unfold wrap64; omega
        rw [e1, show m + 1 = 2 ^ j by omega, blen_spec (2 ^ j) (j + 1) (by rw [Nat.pow_succ]; omega) (Or.inr (by simp))]
      · rw [if_neg h3]
        rw [blen_spec (m + 1) j (by omega) ?_]
        by_cases hj0 : j = 0
        · exact Or.inl hj0
        · refine Or.inr ?_
          have h2 : 2 ^ (j - 1 + 1) = 2 ^ (j - 1) * 2 := Nat.pow_succ 2 (j - 1)
          rw [show j - 1 + 1 = j by omega] at h2
          omega
theorem rbits_f (n : Int) (h : -9223372036854775808 ≤ n ∧ n ≤ 9223372036854775807) : estuaryref01_Bits.f 70 n = some ((blen n.natAbs : Nat) : Int) := by
  unfold estuaryref01_Bits.f
  by_cases h0 : n = 0
  · subst h0
    rfl
  · rw [if_neg h0]
    by_cases h1 : n < 0
    · rw [if_pos h1]
      obtain ⟨m, hm⟩ := Int.eq_ofNat_of_zero_le (show 0 ≤ -(n + 1) by omega)
      have e : wrap64 (-(wrap64 (n + 1))) = (m : Int) := by unfold wrap64; omega
      rw [e]
      have := ref_l0 69 m 0 (by omega) (by omega) (by omega)
      simp at this
      rw [this, show n.natAbs = m + 1 by omega]
    · rw [if_neg h1]
      obtain ⟨m, rfl⟩ := Int.eq_ofNat_of_zero_le (show 0 ≤ n by omega)
      have := ref_l1 69 m 0 (Nat.lt_of_le_of_lt (show m ≤ 9223372036854775807 by omega) (by decide)) (by omega) (by omega)
      simp at this
      simpa using this
theorem rbits_calls (n : Int) (h : -9223372036854775808 ≤ n ∧ n ≤ 9223372036854775807) (w : World) :
    Calls Try.prog 29 #[.int .i64 n] w fun e w' => e = .returned (.int .i64 ((blen n.natAbs : Nat) : Int)) ∧ Below w.heap.size w w' := (estuaryref01_Bits.calls 70 n _ w (rbits_f n h)).mono fun _ _ h => ⟨h.1, h.2.below⟩
set_option maxHeartbeats 4000000 in
theorem walkBits (n : Int) (h : -9223372036854775808 ≤ n ∧ n ≤ 9223372036854775807) (w : World) :
    Calls Try.prog 10 #[.int .i64 n] w fun e w' => e = .returned (.bool true) ∧ Below w.heap.size w w' := by
  refine calls_flow Try.func10 rfl 37 rfl (Nat.le_of_ble_eq_true rfl) [(0, .int .i64 n)] ?_ ?_
  · intro t v h; exact args_look rfl t v h
  refine w_seq ?_
  refine w_region ?_
  refine rw_val (v := .bool false) (w' := w) rfl rfl rfl rfl rfl ?_
  refine rw_end ?_
  refine w_seq ?_
  refine w_seq ?_
  refine w_region ?_
  refine rw_call rfl rfl rfl rfl (f := 13) (args := #[]) (by simp [go_sem, sEv, sLook, nbeq, i64_w]) (alive_calls w) ?_
  rintro e_ w1 ⟨rfl, hb2⟩
  refine ⟨_, rfl, ?_⟩
  have hs_w1 := hb2.size
  refine rw_val (v := .bool false) (w' := w1) rfl rfl rfl rfl (by simp [go_sem, sEv, sLook, nbeq, i64_w]) ?_
  refine rw_end ?_
  refine w_cond_f rfl rfl rfl ?_
  refine w_skip ?_
  refine w_seq ?_
  refine w_region ?_
  refine rw_val (v := .int .i64 n) (w' := w1) rfl rfl rfl rfl rfl ?_
  refine rw_call rfl rfl rfl rfl (f := 28) (args := #[.int .i64 n]) (by simp [go_sem, sEv, sLook, nbeq, i64_w]) (bits_calls n (by first | assumption | (have e_ : ¬ n = -9223372036854775808 := (by simpa using cN); omega)) w1) ?_
  rintro e_ w3 ⟨rfl, hb4⟩
  refine ⟨_, rfl, ?_⟩
  have hs_w3 := hb4.size
  refine rw_val (v := .int .i64 ((blen n.natAbs : Nat) : Int)) (w' := w3) rfl rfl rfl rfl rfl ?_
  refine rw_end ?_
  refine w_seq ?_
  refine w_seq ?_
  refine w_region ?_
  refine rw_val (v := .int .i64 ((blen n.natAbs : Nat) : Int)) (w' := w3) rfl rfl rfl rfl rfl ?_
  refine rw_val (v := .int .i64 n) (w' := w3) rfl rfl rfl rfl rfl ?_
  refine rw_call rfl rfl rfl rfl (f := 29) (args := #[.int .i64 n]) (by simp [go_sem, sEv, sLook, nbeq, i64_w]) (rbits_calls n (by omega) w3) ?_
  rintro e_ w5 ⟨rfl, hb6⟩
  refine ⟨_, rfl, ?_⟩
  have hs_w5 := hb6.size
  refine rw_val (v := .bool false) (w' := w5) rfl rfl rfl rfl (by simp [go_sem, sEv, sLook, nbeq, i64_w]) ?_
  refine rw_val (v := .bool false) (w' := w5) rfl rfl rfl rfl rfl ?_
  refine rw_gval (c := false) (v := .int .i64 ((blen n.natAbs : Nat) : Int)) (w' := w5) rfl rfl rfl rfl rfl rfl rfl (by rfl) ?_
  refine rw_gval (c := false) (v := .bool (decide (((blen n.natAbs : Nat) : Int) < 0))) (w' := w5) rfl rfl rfl rfl rfl rfl rfl (by simp [go_sem, sEv, sLook, nbeq, i64_w]) ?_
  refine rw_val (v := .bool (decide (((blen n.natAbs : Nat) : Int) < 0))) (w' := w5) rfl rfl rfl rfl (by simp [go_sem, sEv, sLook, nbeq, i64_w]) ?_
  refine rw_val (v := .bool (decide (((blen n.natAbs : Nat) : Int) < 0))) (w' := w5) rfl rfl rfl rfl rfl ?_
  have hq7 : (decide (((blen n.natAbs : Nat) : Int) < 0)) = false := by simp
  refine rw_gval (c := decide (((blen n.natAbs : Nat) : Int) < 0)) (v := .int .i64 ((blen n.natAbs : Nat) : Int)) (w' := w5) rfl rfl rfl (by simp [hq7]) rfl rfl rfl (by rfl) ?_
  refine rw_gval (c := decide (((blen n.natAbs : Nat) : Int) < 0)) (v := .bool (decide (64 < ((blen n.natAbs : Nat) : Int)))) (w' := w5) rfl rfl rfl (by simp [hq7]) rfl rfl rfl (by simp [go_sem, sEv, sLook, nbeq, i64_w]) ?_
  refine rw_val (v := .bool (decide (64 < ((blen n.natAbs : Nat) : Int)))) (w' := w5) rfl rfl rfl rfl (by simp [go_sem, sEv, sLook, nbeq, i64_w, hq7]) ?_
  refine rw_end ?_
  refine w_weaken (G' := [(0, .int .i64 n), (2, .bool false), (3, .int .i64 ((blen n.natAbs : Nat) : Int)), (19, .bool (decide (64 < ((blen n.natAbs : Nat) : Int))))]) ⟨rfl, rfl, rfl, rfl, trivial⟩ ?_
  have hq8 : (decide (64 < ((blen n.natAbs : Nat) : Int))) = false := by simp; have := blen_le n.natAbs 64 (by simp; omega); omega
  refine w_cond_f rfl rfl hq8 ?_
  refine w_skip ?_
  refine w_seq ?_
  refine w_region ?_
  refine rw_val (v := .int .i64 n) (w' := w5) rfl rfl rfl rfl rfl ?_
  refine rw_val (v := .bool (n == (-9223372036854775808))) (w' := w5) rfl rfl rfl rfl (by simp [go_sem, sEv, sLook, nbeq, i64_w]) ?_
  refine rw_val (v := .bool (n == (-9223372036854775808))) (w' := w5) rfl rfl rfl rfl rfl ?_
  rcases bcase (n == (-9223372036854775808)) with cN | cN
  · refine rw_off (c := (n == (-9223372036854775808))) rfl rfl rfl (by simp [cN]) rfl rfl ?_
    refine rw_off (c := (n == (-9223372036854775808))) rfl rfl rfl (by simp [cN]) rfl rfl ?_
    refine rw_val (v := .bool false) (w' := w5) rfl rfl rfl rfl (by simp [go_sem, sEv, sLook, nbeq, i64_w, cN]) ?_
    refine rw_val (v := .bool false) (w' := w5) rfl rfl rfl rfl rfl ?_
    refine rw_gval (c := false) (v := .int .i64 n) (w' := w5) rfl rfl rfl rfl rfl rfl rfl (by rfl) ?_
    refine rw_gval (c := false) (v := .bool (n != (-9223372036854775808))) (w' := w5) rfl rfl rfl rfl rfl rfl rfl (by simp [go_sem, sEv, sLook, nbeq, i64_w]) ?_
    refine rw_gval (c := false) (v := .bool (n != (-9223372036854775808))) (w' := w5) rfl rfl rfl rfl rfl rfl rfl (by rfl) ?_
    have hq9 : (n != (-9223372036854775808)) = true := by simpa using cN
    refine rw_gval (c := (n != (-9223372036854775808))) (v := .int .i64 n) (w' := w5) rfl rfl rfl (by simp [hq9]) rfl rfl rfl (by rfl) ?_
    refine rw_gval (c := (n != (-9223372036854775808))) (v := .int .i64 (-n)) (w' := w5) rfl rfl rfl (by simp [hq9]) rfl rfl rfl (by simp [go_sem, sEv, sLook, nbeq, i64_w]; have e_ : ¬ n = -9223372036854775808 := (by simpa using cN); exact wrap_id (by omega) (by omega)) ?_
    refine rw_gcall (c := (n != (-9223372036854775808))) rfl rfl rfl (by simp [hq9]) rfl rfl rfl (f := 28) (args := #[.int .i64 (-n)]) (by simp [go_sem, sEv, sLook, nbeq, i64_w]) (bits_calls (-n) (by first | assumption | (have e_ : ¬ n = -9223372036854775808 := (by simpa using cN); omega)) w5) ?_
    rintro e_ w10 ⟨rfl, hb11⟩
    refine ⟨_, rfl, ?_⟩
    have hs_w10 := hb11.size
    refine rw_gval (c := (n != (-9223372036854775808))) (v := .int .i64 ((blen n.natAbs : Nat) : Int)) (w' := w10) rfl rfl rfl (by simp [hq9]) rfl rfl rfl (by rfl) ?_
    refine rw_gval (c := (n != (-9223372036854775808))) (v := .bool (((blen (-n).natAbs : Nat) : Int) == ((blen n.natAbs : Nat) : Int))) (w' := w10) rfl rfl rfl (by simp [hq9]) rfl rfl rfl (by simp [go_sem, sEv, sLook, nbeq, i64_w]) ?_
    refine rw_gval (c := false) (v := .bool (((blen (-n).natAbs : Nat) : Int) == ((blen n.natAbs : Nat) : Int))) (w' := w10) rfl rfl rfl rfl rfl rfl rfl (by simp [go_sem, sEv, sLook, nbeq, i64_w, hq9]) ?_
    refine rw_val (v := .bool (((blen (-n).natAbs : Nat) : Int) == ((blen n.natAbs : Nat) : Int))) (w' := w10) rfl rfl rfl rfl (by simp [go_sem, sEv, sLook, nbeq, i64_w]) ?_
    refine rw_val (v := .bool (((blen (-n).natAbs : Nat) : Int) == ((blen n.natAbs : Nat) : Int))) (w' := w10) rfl rfl rfl rfl rfl ?_
    refine rw_end ?_
    refine w_weaken (G' := [(2, .bool (((blen (-n).natAbs : Nat) : Int) == ((blen n.natAbs : Nat) : Int)))]) ⟨rfl, trivial⟩ ?_
    have hq12 : (((blen (-n).natAbs : Nat) : Int) == ((blen n.natAbs : Nat) : Int)) = true := by simp
    refine w_ret (post_ret1 rfl rfl ?_)
    exact ⟨by simp only [hq12], (chain (chain (chain hb2 hb4) hb6) hb11)⟩
  · refine rw_gval (c := (n == (-9223372036854775808))) (v := .int .i64 ((blen n.natAbs : Nat) : Int)) (w' := w5) rfl rfl rfl (by simp [cN]) rfl rfl rfl (by rfl) ?_
    refine rw_gval (c := (n == (-9223372036854775808))) (v := .bool (((blen n.natAbs : Nat) : Int) == 64)) (w' := w5) rfl rfl rfl (by simp [cN]) rfl rfl rfl (by simp [go_sem, sEv, sLook, nbeq, i64_w]) ?_
    refine rw_val (v := .bool (((blen n.natAbs : Nat) : Int) == 64)) (w' := w5) rfl rfl rfl rfl (by simp [go_sem, sEv, sLook, nbeq, i64_w, cN]) ?_
    refine rw_val (v := .bool (((blen n.natAbs : Nat) : Int) == 64)) (w' := w5) rfl rfl rfl rfl rfl ?_
    have hq13 : (((blen n.natAbs : Nat) : Int) == 64) = true := by have e_ : n = -9223372036854775808 := (by simpa using cN); subst e_; decide +kernel
    refine rw_off (c := (((blen n.natAbs : Nat) : Int) == 64)) rfl rfl rfl (by simp [hq13]) rfl rfl ?_
    refine rw_off (c := (((blen n.natAbs : Nat) : Int) == 64)) rfl rfl rfl (by simp [hq13]) rfl rfl ?_
    refine rw_off (c := (((blen n.natAbs : Nat) : Int) == 64)) rfl rfl rfl (by simp [hq13]) rfl rfl ?_
    refine rw_offu rfl rfl rfl rfl rfl ?_
    refine rw_offu rfl rfl rfl rfl rfl ?_
    refine rw_offu rfl rfl rfl rfl rfl ?_
    refine rw_offu rfl rfl rfl rfl rfl ?_
    refine rw_offu rfl rfl rfl rfl rfl ?_
    refine rw_off (c := (((blen n.natAbs : Nat) : Int) == 64)) rfl rfl rfl (by simp [hq13]) rfl rfl ?_
    refine rw_val (v := .bool true) (w' := w5) rfl rfl rfl rfl (by simp [go_sem, sEv, sLook, nbeq, i64_w, hq13]) ?_
    refine rw_val (v := .bool true) (w' := w5) rfl rfl rfl rfl rfl ?_
    refine rw_end ?_
    refine w_weaken (G' := [(2, .bool true)]) ⟨rfl, trivial⟩ ?_
    refine w_ret (post_ret1 rfl rfl ?_)
    exact ⟨rfl, (chain (chain hb2 hb4) hb6)⟩
end Go.Proofs.Ythhepaikogcddaa.PFloorGroup
