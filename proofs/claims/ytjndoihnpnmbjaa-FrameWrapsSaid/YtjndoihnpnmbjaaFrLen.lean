/- How many binary digits: the walk. -/
import Derived.Test.YtjndoihnpnmbjaaFlowE
import Derived.Test.YtjndoihnpnmbjaaPFrameSumsx0
namespace Go.Proofs.Ytjndoihnpnmbjaa.PFrameSums
open Go.RowKit Go.Proofs.YtjndoihnpnmbjaaW.PrintWords Go.Proofs.YtjndoihnpnmbjaaW.PrintLast Go.Proofs.YtjndoihnpnmbjaaW.PrintMore
open Go.Proofs.Ytjndoihnpnmbjaa.Flow
set_option linter.unusedVariables false
set_option linter.unusedSimpArgs false


theorem u64_wrap (x : Int) : IntKind.u64.wrap x = x % 18446744073709551616 := by simp [IntKind.wrap, IntKind.bits, IntKind.signed] <;> omega
theorem u8_wrap (x : Int) (h0 : 0 ≤ x) (h1 : x < 256) : IntKind.u8.wrap x = x := by simp [IntKind.wrap, IntKind.bits, IntKind.signed] <;> omega
theorem wrap_id {x : Int} (h1 : -9223372036854775808 ≤ x) (h2 : x ≤ 9223372036854775807) : wrap64 x = x := by unfold wrap64; omega

/-- How many binary digits a number has. -/
def blen (n : Nat) : Nat := if n = 0 then 0 else n.log2 + 1
theorem blen_spec (n k : Nat) (h : n < 2 ^ k) (h2 : k = 0 ∨ 2 ^ (k - 1) ≤ n) : blen n = k := by
  unfold blen
  rcases h2 with h2 | h2
  · subst h2
    have : n = 0 := by omega
    rw [if_pos this]
  · have h0 : 0 < 2 ^ (k - 1) := Nat.two_pow_pos _
    rw [if_neg (by omega)]
    have h3 : n.log2 < k := (Nat.log2_lt (by omega)).2 h
    have h4 : k - 1 ≤ n.log2 := (Nat.le_log2 (by omega)).2 h2
    omega
theorem blen_lt (n : Nat) : n < 2 ^ blen n := by
  unfold blen
  split
  · omega
  · exact Nat.lt_log2_self
theorem blen_ge (n : Nat) (h : n ≠ 0) : 2 ^ (blen n - 1) ≤ n := by
  unfold blen
  rw [if_neg h]
  exact Nat.log2_self_le h
theorem blen_pos (n : Nat) (h : n ≠ 0) : 0 < blen n := by
  unfold blen
  rw [if_neg h]
  omega
theorem blen_le (n k : Nat) (h : n < 2 ^ k) : blen n ≤ k := by
  by_cases h0 : n = 0
  · subst h0
    simp [blen]
  · unfold blen
    rw [if_neg h0]
    have : n.log2 < k := (Nat.log2_lt h0).2 h
    omega
theorem blen_shift (n k : Nat) (h : 2 ^ k ≤ n) : blen n = k + blen (n / 2 ^ k) := by
  have hp : 0 < 2 ^ k := Nat.two_pow_pos _
  have h0 : n / 2 ^ k ≠ 0 := by
    have := (Nat.one_le_div_iff hp).2 h
    omega
  have h1 := blen_lt (n / 2 ^ k)
  have h2 := blen_ge (n / 2 ^ k) h0
  have h3 := blen_pos (n / 2 ^ k) h0
  refine blen_spec n _ ?_ (Or.inr ?_)
  · rw [Nat.pow_add]
    have := (Nat.div_lt_iff_lt_mul hp).1 h1
    rw [Nat.mul_comm]
    exact this
  · rw [show k + blen (n / 2 ^ k) - 1 = k + (blen (n / 2 ^ k) - 1) by omega, Nat.pow_add, Nat.mul_comm]
    exact (Nat.le_div_iff_mul_le hp).1 h2
theorem run_value {P : Program} {s : Sem Value} {v : Value} {w w' : World} (h : s.run P w = .ok v w') : (do pure (Next.value (← s)) : Sem Next).run P w = .ok (.value v) w' := by simp [h]
theorem tab_index {P : Program} {t : TypeId} {s : ByteArray} (hu : P.underlying t = some .string) (ht : (List.range 256).all (fun i => (s.get! i).toNat == blen i) = true) (hs : s.size = 256) (m : Nat) (h : m < 256) (w : World) :
    (Instr.index t (.string s) (.int .u8 (m : Int))).run P w = .ok (.int .u8 ((blen m : Nat) : Int)) w := by
  rw [run_index_string (w := w) t s .u8 (m : Int) hu, dif_pos ⟨by omega, by omega⟩]
  have h1 := List.all_eq_true.1 ht m (List.mem_range.2 h)
  have h2 : (s.get! m).toNat = blen m := by simpa using h1
  have h3 : s.get! m = s[m]'(by omega) := by
    show s.data[m]! = _
    rw [getElem!_pos s.data m (by show m < s.size; omega)]
    rfl
  rw [h3] at h2
  simp only [Int.toNat_natCast]
  rw [h2]
set_option maxRecDepth 100000 in
set_option maxHeartbeats 4000000 in
theorem len64_calls (n : Nat) (hn : n < 18446744073709551616) (w : World) :
    Calls Try.prog 40 #[.int .u64 (n : Int)] w fun e w' => e = .returned (.int .i64 ((blen n : Nat) : Int)) ∧ Drawn0 w w' := by
  refine calls_flow Try.func40 rfl 25 rfl (Nat.le_of_ble_eq_true rfl) [(0, .int .u64 (n : Int))] ?_ ?_
  · intro t v h; exact args_look rfl t v h
  refine w_seq ?_
  refine w_region ?_
  refine rw_val (v := .int .i64 0) (w' := w) rfl rfl rfl rfl rfl ?_
  refine rw_end ?_
  refine w_seq ?_
  refine w_seq ?_
  refine w_region ?_
  refine rw_val (v := .int .u64 (n : Int)) (w' := w) rfl rfl rfl rfl rfl ?_
  refine rw_val (v := .bool (decide (4294967296 ≤ (n : Int)))) (w' := w) rfl rfl rfl rfl (by simp [go_sem, sEv, sLook, nbeq, i64_w]) ?_
  refine rw_end ?_
  refine w_cond rfl rfl (fun c1 => ?_) (fun c1 => ?_)
  · refine w_seq ?_
    refine w_region ?_
    refine rw_val (v := .int .u64 (n : Int)) (w' := w) rfl rfl rfl rfl rfl ?_
    refine rw_val (v := .int .u64 ((n / 4294967296 : Nat) : Int)) (w' := w) rfl rfl rfl rfl (by simp [go_sem, sEv, sLook, nbeq, i64_w] <;> omega) ?_
    refine rw_val (v := .int .u64 ((n / 4294967296 : Nat) : Int)) (w' := w) rfl rfl rfl rfl rfl ?_
    refine rw_end ?_
    refine w_region ?_
    refine rw_val (v := .int .i64 32) (w' := w) rfl rfl rfl rfl rfl ?_
    refine rw_end ?_
    refine w_seq ?_
    refine w_seq ?_
    refine w_region ?_
    refine rw_val (v := .int .u64 ((n / 4294967296 : Nat) : Int)) (w' := w) rfl rfl rfl rfl rfl ?_
    refine rw_val (v := .bool (decide (65536 ≤ ((n / 4294967296 : Nat) : Int)))) (w' := w) rfl rfl rfl rfl (by simp [go_sem, sEv, sLook, nbeq, i64_w]) ?_
    refine rw_end ?_
    refine w_cond rfl rfl (fun c2 => ?_) (fun c2 => ?_)
    · refine w_seq ?_
      refine w_region ?_
      refine rw_val (v := .int .u64 ((n / 4294967296 : Nat) : Int)) (w' := w) rfl rfl rfl rfl rfl ?_
      refine rw_val (v := .int .u64 ((n / 4294967296 / 65536 : Nat) : Int)) (w' := w) rfl rfl rfl rfl (by simp [go_sem, sEv, sLook, nbeq, i64_w] <;> omega) ?_
      refine rw_val (v := .int .u64 ((n / 4294967296 / 65536 : Nat) : Int)) (w' := w) rfl rfl rfl rfl rfl ?_
      refine rw_end ?_
      refine w_region ?_
      refine rw_val (v := .int .i64 32) (w' := w) rfl rfl rfl rfl rfl ?_
      refine rw_val (v := .int .i64 48) (w' := w) rfl rfl rfl rfl (by kernel_rfl) ?_
      refine rw_val (v := .int .i64 48) (w' := w) rfl rfl rfl rfl rfl ?_
      refine rw_end ?_
      refine w_seq ?_
      refine w_seq ?_
      refine w_region ?_
      refine rw_val (v := .int .u64 ((n / 4294967296 / 65536 : Nat) : Int)) (w' := w) rfl rfl rfl rfl rfl ?_
      refine rw_val (v := .bool (decide (256 ≤ ((n / 4294967296 / 65536 : Nat) : Int)))) (w' := w) rfl rfl rfl rfl (by simp [go_sem, sEv, sLook, nbeq, i64_w]) ?_
      refine rw_end ?_
      refine w_cond rfl rfl (fun c3 => ?_) (fun c3 => ?_)
      · refine w_seq ?_
        refine w_region ?_
        refine rw_val (v := .int .u64 ((n / 4294967296 / 65536 : Nat) : Int)) (w' := w) rfl rfl rfl rfl rfl ?_
        refine rw_val (v := .int .u64 ((n / 4294967296 / 65536 / 256 : Nat) : Int)) (w' := w) rfl rfl rfl rfl (by simp [go_sem, sEv, sLook, nbeq, i64_w] <;> omega) ?_
        refine rw_val (v := .int .u64 ((n / 4294967296 / 65536 / 256 : Nat) : Int)) (w' := w) rfl rfl rfl rfl rfl ?_
        refine rw_end ?_
        refine w_region ?_
        refine rw_val (v := .int .i64 48) (w' := w) rfl rfl rfl rfl rfl ?_
        refine rw_val (v := .int .i64 56) (w' := w) rfl rfl rfl rfl (by kernel_rfl) ?_
        refine rw_val (v := .int .i64 56) (w' := w) rfl rfl rfl rfl rfl ?_
        refine rw_end ?_
        refine w_seq ?_
        refine w_region ?_
        refine rw_val (v := .int .i64 56) (w' := w) rfl rfl rfl rfl rfl ?_
        refine rw_val (v := .int .u64 ((n / 4294967296 / 65536 / 256 : Nat) : Int)) (w' := w) rfl rfl rfl rfl rfl ?_
        refine rw_val (v := .int .u8 ((n / 4294967296 / 65536 / 256 : Nat) : Int)) (w' := w) rfl rfl rfl rfl (by simp [go_sem, sEv, sLook, nbeq, i64_w]; exact u8_wrap _ (by omega) (by have := of_decide_eq_true c1; have := of_decide_eq_true c2; have := of_decide_eq_true c3; omega)) ?_
        refine rw_val (v := .int .u8 ((blen (n / 4294967296 / 65536 / 256) : Nat) : Int)) (w' := w) rfl rfl rfl rfl (by refine run_value (tab_index (P := Try.prog) ?_ ?_ ?_ (n / 4294967296 / 65536 / 256) ?_ _); kernel_rfl; decide +kernel; decide +kernel; (have := of_decide_eq_true c1; have := of_decide_eq_true c2; have := of_decide_eq_true c3; omega)) ?_
        refine rw_val (v := .int .i64 ((blen (n / 4294967296 / 65536 / 256) : Nat) : Int)) (w' := w) rfl rfl rfl rfl (by simp [go_sem, sEv, sLook, nbeq, i64_w]; exact wrap_id (by omega) (by have := blen_le (n / 4294967296 / 65536 / 256) 8 (by have := of_decide_eq_true c1; have := of_decide_eq_true c2; have := of_decide_eq_true c3; omega); omega)) ?_
        refine rw_val (v := .int .i64 (wrap64 (56 + ((blen (n / 4294967296 / 65536 / 256) : Nat) : Int)))) (w' := w) rfl rfl rfl rfl (by simp [go_sem, sEv, sLook, nbeq, i64_w]) ?_
        refine rw_val (v := .int .i64 (wrap64 (56 + ((blen (n / 4294967296 / 65536 / 256) : Nat) : Int)))) (w' := w) rfl rfl rfl rfl rfl ?_
        refine rw_end ?_
        refine w_weaken (G' := [(2, .int .i64 (wrap64 (56 + ((blen (n / 4294967296 / 65536 / 256) : Nat) : Int))))]) ⟨rfl, trivial⟩ ?_
        refine w_ret (post_ret1 rfl rfl ?_)
        have qc1 := of_decide_eq_true c1
        have qc2 := of_decide_eq_true c2
        have qc3 := of_decide_eq_true c3
        have b0_ := blen_shift (n) 32 (by have e_ := qc1; simp at e_ ⊢; omega)
        have b1_ := blen_shift (n / 4294967296) 16 (by have e_ := qc2; simp at e_ ⊢; omega)
        have b2_ := blen_shift ((n / 4294967296) / 65536) 8 (by have e_ := qc3; simp at e_ ⊢; omega)
        have hb_ := blen_le (((n / 4294967296) / 65536) / 256) 8 (by simp; omega)
        simp only [show (2 : Nat) ^ 32 = 4294967296 by decide, show (2 : Nat) ^ 16 = 65536 by decide, show (2 : Nat) ^ 8 = 256 by decide] at *
        refine ⟨?_, Drawn0.refl _⟩
        congr 2
        unfold wrap64
        omega
      · refine w_skip ?_
        refine w_seq ?_
        refine w_region ?_
        refine rw_val (v := .int .i64 48) (w' := w) rfl rfl rfl rfl rfl ?_
        refine rw_val (v := .int .u64 ((n / 4294967296 / 65536 : Nat) : Int)) (w' := w) rfl rfl rfl rfl rfl ?_
        refine rw_val (v := .int .u8 ((n / 4294967296 / 65536 : Nat) : Int)) (w' := w) rfl rfl rfl rfl (by simp [go_sem, sEv, sLook, nbeq, i64_w]; exact u8_wrap _ (by omega) (by have := of_decide_eq_true c1; have := of_decide_eq_true c2; have := of_decide_eq_false c3; omega)) ?_
        refine rw_val (v := .int .u8 ((blen (n / 4294967296 / 65536) : Nat) : Int)) (w' := w) rfl rfl rfl rfl (by refine run_value (tab_index (P := Try.prog) ?_ ?_ ?_ (n / 4294967296 / 65536) ?_ _); kernel_rfl; decide +kernel; decide +kernel; (have := of_decide_eq_true c1; have := of_decide_eq_true c2; have := of_decide_eq_false c3; omega)) ?_
        refine rw_val (v := .int .i64 ((blen (n / 4294967296 / 65536) : Nat) : Int)) (w' := w) rfl rfl rfl rfl (by simp [go_sem, sEv, sLook, nbeq, i64_w]; exact wrap_id (by omega) (by have := blen_le (n / 4294967296 / 65536) 8 (by have := of_decide_eq_true c1; have := of_decide_eq_true c2; have := of_decide_eq_false c3; omega); omega)) ?_
        refine rw_val (v := .int .i64 (wrap64 (48 + ((blen (n / 4294967296 / 65536) : Nat) : Int)))) (w' := w) rfl rfl rfl rfl (by simp [go_sem, sEv, sLook, nbeq, i64_w]) ?_
        refine rw_val (v := .int .i64 (wrap64 (48 + ((blen (n / 4294967296 / 65536) : Nat) : Int)))) (w' := w) rfl rfl rfl rfl rfl ?_
        refine rw_end ?_
        refine w_weaken (G' := [(2, .int .i64 (wrap64 (48 + ((blen (n / 4294967296 / 65536) : Nat) : Int))))]) ⟨rfl, trivial⟩ ?_
        refine w_ret (post_ret1 rfl rfl ?_)
        have qc1 := of_decide_eq_true c1
        have qc2 := of_decide_eq_true c2
        have qc3 := of_decide_eq_false c3
        have b0_ := blen_shift (n) 32 (by have e_ := qc1; simp at e_ ⊢; omega)
        have b1_ := blen_shift (n / 4294967296) 16 (by have e_ := qc2; simp at e_ ⊢; omega)
        have hb_ := blen_le ((n / 4294967296) / 65536) 8 (by simp; omega)
        simp only [show (2 : Nat) ^ 32 = 4294967296 by decide, show (2 : Nat) ^ 16 = 65536 by decide, show (2 : Nat) ^ 8 = 256 by decide] at *
        refine ⟨?_, Drawn0.refl _⟩
        congr 2
        unfold wrap64
        omega
    · refine w_skip ?_
      refine w_seq ?_
      refine w_seq ?_
      refine w_region ?_
      refine rw_val (v := .int .u64 ((n / 4294967296 : Nat) : Int)) (w' := w) rfl rfl rfl rfl rfl ?_
      refine rw_val (v := .bool (decide (256 ≤ ((n / 4294967296 : Nat) : Int)))) (w' := w) rfl rfl rfl rfl (by simp [go_sem, sEv, sLook, nbeq, i64_w]) ?_
      refine rw_end ?_
      refine w_cond rfl rfl (fun c4 => ?_) (fun c4 => ?_)
      · refine w_seq ?_
        refine w_region ?_
        refine rw_val (v := .int .u64 ((n / 4294967296 : Nat) : Int)) (w' := w) rfl rfl rfl rfl rfl ?_
        refine rw_val (v := .int .u64 ((n / 4294967296 / 256 : Nat) : Int)) (w' := w) rfl rfl rfl rfl (by simp [go_sem, sEv, sLook, nbeq, i64_w] <;> omega) ?_
        refine rw_val (v := .int .u64 ((n / 4294967296 / 256 : Nat) : Int)) (w' := w) rfl rfl rfl rfl rfl ?_
        refine rw_end ?_
        refine w_region ?_
        refine rw_val (v := .int .i64 32) (w' := w) rfl rfl rfl rfl rfl ?_
        refine rw_val (v := .int .i64 40) (w' := w) rfl rfl rfl rfl (by kernel_rfl) ?_
        refine rw_val (v := .int .i64 40) (w' := w) rfl rfl rfl rfl rfl ?_
        refine rw_end ?_
        refine w_seq ?_
        refine w_region ?_
        refine rw_val (v := .int .i64 40) (w' := w) rfl rfl rfl rfl rfl ?_
        refine rw_val (v := .int .u64 ((n / 4294967296 / 256 : Nat) : Int)) (w' := w) rfl rfl rfl rfl rfl ?_
        refine rw_val (v := .int .u8 ((n / 4294967296 / 256 : Nat) : Int)) (w' := w) rfl rfl rfl rfl (by simp [go_sem, sEv, sLook, nbeq, i64_w]; exact u8_wrap _ (by omega) (by have := of_decide_eq_true c1; have := of_decide_eq_false c2; have := of_decide_eq_true c4; omega)) ?_
        refine rw_val (v := .int .u8 ((blen (n / 4294967296 / 256) : Nat) : Int)) (w' := w) rfl rfl rfl rfl (by refine run_value (tab_index (P := Try.prog) ?_ ?_ ?_ (n / 4294967296 / 256) ?_ _); kernel_rfl; decide +kernel; decide +kernel; (have := of_decide_eq_true c1; have := of_decide_eq_false c2; have := of_decide_eq_true c4; omega)) ?_
        refine rw_val (v := .int .i64 ((blen (n / 4294967296 / 256) : Nat) : Int)) (w' := w) rfl rfl rfl rfl (by simp [go_sem, sEv, sLook, nbeq, i64_w]; exact wrap_id (by omega) (by have := blen_le (n / 4294967296 / 256) 8 (by have := of_decide_eq_true c1; have := of_decide_eq_false c2; have := of_decide_eq_true c4; omega); omega)) ?_
        refine rw_val (v := .int .i64 (wrap64 (40 + ((blen (n / 4294967296 / 256) : Nat) : Int)))) (w' := w) rfl rfl rfl rfl (by simp [go_sem, sEv, sLook, nbeq, i64_w]) ?_
        refine rw_val (v := .int .i64 (wrap64 (40 + ((blen (n / 4294967296 / 256) : Nat) : Int)))) (w' := w) rfl rfl rfl rfl rfl ?_
        refine rw_end ?_
        refine w_weaken (G' := [(2, .int .i64 (wrap64 (40 + ((blen (n / 4294967296 / 256) : Nat) : Int))))]) ⟨rfl, trivial⟩ ?_
        refine w_ret (post_ret1 rfl rfl ?_)
        have qc1 := of_decide_eq_true c1
        have qc2 := of_decide_eq_false c2
        have qc4 := of_decide_eq_true c4
        have b0_ := blen_shift (n) 32 (by have e_ := qc1; simp at e_ ⊢; omega)
        have b1_ := blen_shift (n / 4294967296) 8 (by have e_ := qc4; simp at e_ ⊢; omega)
        have hb_ := blen_le ((n / 4294967296) / 256) 8 (by simp; omega)
        simp only [show (2 : Nat) ^ 32 = 4294967296 by decide, show (2 : Nat) ^ 16 = 65536 by decide, show (2 : Nat) ^ 8 = 256 by decide] at *
        refine ⟨?_, Drawn0.refl _⟩
        congr 2
        unfold wrap64
        omega
      · refine w_skip ?_
        refine w_seq ?_
        refine w_region ?_
        refine rw_val (v := .int .i64 32) (w' := w) rfl rfl rfl rfl rfl ?_
        refine rw_val (v := .int .u64 ((n / 4294967296 : Nat) : Int)) (w' := w) rfl rfl rfl rfl rfl ?_
        refine rw_val (v := .int .u8 ((n / 4294967296 : Nat) : Int)) (w' := w) rfl rfl rfl rfl (by simp [go_sem, sEv, sLook, nbeq, i64_w]; exact u8_wrap _ (by omega) (by have := of_decide_eq_true c1; have := of_decide_eq_false c2; have := of_decide_eq_false c4; omega)) ?_
        refine rw_val (v := .int .u8 ((blen (n / 4294967296) : Nat) : Int)) (w' := w) rfl rfl rfl rfl (by refine run_value (tab_index (P := Try.prog) ?_ ?_ ?_ (n / 4294967296) ?_ _); kernel_rfl; decide +kernel; decide +kernel; (have := of_decide_eq_true c1; have := of_decide_eq_false c2; have := of_decide_eq_false c4; omega)) ?_
        refine rw_val (v := .int .i64 ((blen (n / 4294967296) : Nat) : Int)) (w' := w) rfl rfl rfl rfl (by simp [go_sem, sEv, sLook, nbeq, i64_w]; exact wrap_id (by omega) (by have := blen_le (n / 4294967296) 8 (by have := of_decide_eq_true c1; have := of_decide_eq_false c2; have := of_decide_eq_false c4; omega); omega)) ?_
        refine rw_val (v := .int .i64 (wrap64 (32 + ((blen (n / 4294967296) : Nat) : Int)))) (w' := w) rfl rfl rfl rfl (by simp [go_sem, sEv, sLook, nbeq, i64_w]) ?_
        refine rw_val (v := .int .i64 (wrap64 (32 + ((blen (n / 4294967296) : Nat) : Int)))) (w' := w) rfl rfl rfl rfl rfl ?_
        refine rw_end ?_
        refine w_weaken (G' := [(2, .int .i64 (wrap64 (32 + ((blen (n / 4294967296) : Nat) : Int))))]) ⟨rfl, trivial⟩ ?_
        refine w_ret (post_ret1 rfl rfl ?_)
        have qc1 := of_decide_eq_true c1
        have qc2 := of_decide_eq_false c2
        have qc4 := of_decide_eq_false c4
        have b0_ := blen_shift (n) 32 (by have e_ := qc1; simp at e_ ⊢; omega)
        have hb_ := blen_le (n / 4294967296) 8 (by simp; omega)
        simp only [show (2 : Nat) ^ 32 = 4294967296 by decide, show (2 : Nat) ^ 16 = 65536 by decide, show (2 : Nat) ^ 8 = 256 by decide] at *
        refine ⟨?_, Drawn0.refl _⟩
        congr 2
        unfold wrap64
        omega
  · refine w_skip ?_
    refine w_seq ?_
    refine w_seq ?_
    refine w_region ?_
    refine rw_val (v := .int .u64 (n : Int)) (w' := w) rfl rfl rfl rfl rfl ?_
    refine rw_val (v := .bool (decide (65536 ≤ (n : Int)))) (w' := w) rfl rfl rfl rfl (by simp [go_sem, sEv, sLook, nbeq, i64_w]) ?_
    refine rw_end ?_
    refine w_cond rfl rfl (fun c5 => ?_) (fun c5 => ?_)
    · refine w_seq ?_
      refine w_region ?_
      refine rw_val (v := .int .u64 (n : Int)) (w' := w) rfl rfl rfl rfl rfl ?_
      refine rw_val (v := .int .u64 ((n / 65536 : Nat) : Int)) (w' := w) rfl rfl rfl rfl (by simp [go_sem, sEv, sLook, nbeq, i64_w] <;> omega) ?_
      refine rw_val (v := .int .u64 ((n / 65536 : Nat) : Int)) (w' := w) rfl rfl rfl rfl rfl ?_
      refine rw_end ?_
      refine w_region ?_
      refine rw_val (v := .int .i64 0) (w' := w) rfl rfl rfl rfl rfl ?_
      refine rw_val (v := .int .i64 16) (w' := w) rfl rfl rfl rfl (by kernel_rfl) ?_
      refine rw_val (v := .int .i64 16) (w' := w) rfl rfl rfl rfl rfl ?_
      refine rw_end ?_
      refine w_seq ?_
      refine w_seq ?_
      refine w_region ?_
      refine rw_val (v := .int .u64 ((n / 65536 : Nat) : Int)) (w' := w) rfl rfl rfl rfl rfl ?_
      refine rw_val (v := .bool (decide (256 ≤ ((n / 65536 : Nat) : Int)))) (w' := w) rfl rfl rfl rfl (by simp [go_sem, sEv, sLook, nbeq, i64_w]) ?_
      refine rw_end ?_
      refine w_cond rfl rfl (fun c6 => ?_) (fun c6 => ?_)
      · refine w_seq ?_
        refine w_region ?_
        refine rw_val (v := .int .u64 ((n / 65536 : Nat) : Int)) (w' := w) rfl rfl rfl rfl rfl ?_
        refine rw_val (v := .int .u64 ((n / 65536 / 256 : Nat) : Int)) (w' := w) rfl rfl rfl rfl (by simp [go_sem, sEv, sLook, nbeq, i64_w] <;> omega) ?_
        refine rw_val (v := .int .u64 ((n / 65536 / 256 : Nat) : Int)) (w' := w) rfl rfl rfl rfl rfl ?_
        refine rw_end ?_
        refine w_region ?_
        refine rw_val (v := .int .i64 16) (w' := w) rfl rfl rfl rfl rfl ?_
        refine rw_val (v := .int .i64 24) (w' := w) rfl rfl rfl rfl (by kernel_rfl) ?_
        refine rw_val (v := .int .i64 24) (w' := w) rfl rfl rfl rfl rfl ?_
        refine rw_end ?_
        refine w_seq ?_
        refine w_region ?_
        refine rw_val (v := .int .i64 24) (w' := w) rfl rfl rfl rfl rfl ?_
        refine rw_val (v := .int .u64 ((n / 65536 / 256 : Nat) : Int)) (w' := w) rfl rfl rfl rfl rfl ?_
        refine rw_val (v := .int .u8 ((n / 65536 / 256 : Nat) : Int)) (w' := w) rfl rfl rfl rfl (by simp [go_sem, sEv, sLook, nbeq, i64_w]; exact u8_wrap _ (by omega) (by have := of_decide_eq_false c1; have := of_decide_eq_true c5; have := of_decide_eq_true c6; omega)) ?_
        refine rw_val (v := .int .u8 ((blen (n / 65536 / 256) : Nat) : Int)) (w' := w) rfl rfl rfl rfl (by refine run_value (tab_index (P := Try.prog) ?_ ?_ ?_ (n / 65536 / 256) ?_ _); kernel_rfl; decide +kernel; decide +kernel; (have := of_decide_eq_false c1; have := of_decide_eq_true c5; have := of_decide_eq_true c6; omega)) ?_
        refine rw_val (v := .int .i64 ((blen (n / 65536 / 256) : Nat) : Int)) (w' := w) rfl rfl rfl rfl (by simp [go_sem, sEv, sLook, nbeq, i64_w]; exact wrap_id (by omega) (by have := blen_le (n / 65536 / 256) 8 (by have := of_decide_eq_false c1; have := of_decide_eq_true c5; have := of_decide_eq_true c6; omega); omega)) ?_
        refine rw_val (v := .int .i64 (wrap64 (24 + ((blen (n / 65536 / 256) : Nat) : Int)))) (w' := w) rfl rfl rfl rfl (by simp [go_sem, sEv, sLook, nbeq, i64_w]) ?_
        refine rw_val (v := .int .i64 (wrap64 (24 + ((blen (n / 65536 / 256) : Nat) : Int)))) (w' := w) rfl rfl rfl rfl rfl ?_
        refine rw_end ?_
        refine w_weaken (G' := [(2, .int .i64 (wrap64 (24 + ((blen (n / 65536 / 256) : Nat) : Int))))]) ⟨rfl, trivial⟩ ?_
        refine w_ret (post_ret1 rfl rfl ?_)
        have qc1 := of_decide_eq_false c1
        have qc5 := of_decide_eq_true c5
        have qc6 := of_decide_eq_true c6
        have b0_ := blen_shift (n) 16 (by have e_ := qc5; simp at e_ ⊢; omega)
        have b1_ := blen_shift (n / 65536) 8 (by have e_ := qc6; simp at e_ ⊢; omega)
        have hb_ := blen_le ((n / 65536) / 256) 8 (by simp; omega)
        simp only [show (2 : Nat) ^ 32 = 4294967296 by decide, show (2 : Nat) ^ 16 = 65536 by decide, show (2 : Nat) ^ 8 = 256 by decide] at *
        refine ⟨?_, Drawn0.refl _⟩
        congr 2
        unfold wrap64
        omega
      · refine w_skip ?_
        refine w_seq ?_
        refine w_region ?_
        refine rw_val (v := .int .i64 16) (w' := w) rfl rfl rfl rfl rfl ?_
        refine rw_val (v := .int .u64 ((n / 65536 : Nat) : Int)) (w' := w) rfl rfl rfl rfl rfl ?_
        refine rw_val (v := .int .u8 ((n / 65536 : Nat) : Int)) (w' := w) rfl rfl rfl rfl (by simp [go_sem, sEv, sLook, nbeq, i64_w]; exact u8_wrap _ (by omega) (by have := of_decide_eq_false c1; have := of_decide_eq_true c5; have := of_decide_eq_false c6; omega)) ?_
        refine rw_val (v := .int .u8 ((blen (n / 65536) : Nat) : Int)) (w' := w) rfl rfl rfl rfl (by refine run_value (tab_index (P := Try.prog) ?_ ?_ ?_ (n / 65536) ?_ _); kernel_rfl; decide +kernel; decide +kernel; (have := of_decide_eq_false c1; have := of_decide_eq_true c5; have := of_decide_eq_false c6; omega)) ?_
        refine rw_val (v := .int .i64 ((blen (n / 65536) : Nat) : Int)) (w' := w) rfl rfl rfl rfl (by simp [go_sem, sEv, sLook, nbeq, i64_w]; exact wrap_id (by omega) (by have := blen_le (n / 65536) 8 (by have := of_decide_eq_false c1; have := of_decide_eq_true c5; have := of_decide_eq_false c6; omega); omega)) ?_
        refine rw_val (v := .int .i64 (wrap64 (16 + ((blen (n / 65536) : Nat) : Int)))) (w' := w) rfl rfl rfl rfl (by simp [go_sem, sEv, sLook, nbeq, i64_w]) ?_
        refine rw_val (v := .int .i64 (wrap64 (16 + ((blen (n / 65536) : Nat) : Int)))) (w' := w) rfl rfl rfl rfl rfl ?_
        refine rw_end ?_
        refine w_weaken (G' := [(2, .int .i64 (wrap64 (16 + ((blen (n / 65536) : Nat) : Int))))]) ⟨rfl, trivial⟩ ?_
        refine w_ret (post_ret1 rfl rfl ?_)
        have qc1 := of_decide_eq_false c1
        have qc5 := of_decide_eq_true c5
        have qc6 := of_decide_eq_false c6
        have b0_ := blen_shift (n) 16 (by have e_ := qc5; simp at e_ ⊢; omega)
        have hb_ := blen_le (n / 65536) 8 (by simp; omega)
        simp only [show (2 : Nat) ^ 32 = 4294967296 by decide, show (2 : Nat) ^ 16 = 65536 by decide, show (2 : Nat) ^ 8 = 256 by decide] at *
        refine ⟨?_, Drawn0.refl _⟩
        congr 2
        unfold wrap64
        omega
    · refine w_skip ?_
      refine w_seq ?_
      refine w_seq ?_
      refine w_region ?_
      refine rw_val (v := .int .u64 (n : Int)) (w' := w) rfl rfl rfl rfl rfl ?_
      refine rw_val (v := .bool (decide (256 ≤ (n : Int)))) (w' := w) rfl rfl rfl rfl (by simp [go_sem, sEv, sLook, nbeq, i64_w]) ?_
      refine rw_end ?_
      refine w_cond rfl rfl (fun c7 => ?_) (fun c7 => ?_)
      · refine w_seq ?_
        refine w_region ?_
        refine rw_val (v := .int .u64 (n : Int)) (w' := w) rfl rfl rfl rfl rfl ?_
        refine rw_val (v := .int .u64 ((n / 256 : Nat) : Int)) (w' := w) rfl rfl rfl rfl (by simp [go_sem, sEv, sLook, nbeq, i64_w] <;> omega) ?_
        refine rw_val (v := .int .u64 ((n / 256 : Nat) : Int)) (w' := w) rfl rfl rfl rfl rfl ?_
        refine rw_end ?_
        refine w_region ?_
        refine rw_val (v := .int .i64 0) (w' := w) rfl rfl rfl rfl rfl ?_
        refine rw_val (v := .int .i64 8) (w' := w) rfl rfl rfl rfl (by kernel_rfl) ?_
        refine rw_val (v := .int .i64 8) (w' := w) rfl rfl rfl rfl rfl ?_
        refine rw_end ?_
        refine w_seq ?_
        refine w_region ?_
        refine rw_val (v := .int .i64 8) (w' := w) rfl rfl rfl rfl rfl ?_
        refine rw_val (v := .int .u64 ((n / 256 : Nat) : Int)) (w' := w) rfl rfl rfl rfl rfl ?_
        refine rw_val (v := .int .u8 ((n / 256 : Nat) : Int)) (w' := w) rfl rfl rfl rfl (by simp [go_sem, sEv, sLook, nbeq, i64_w]; exact u8_wrap _ (by omega) (by have := of_decide_eq_false c1; have := of_decide_eq_false c5; have := of_decide_eq_true c7; omega)) ?_
        refine rw_val (v := .int .u8 ((blen (n / 256) : Nat) : Int)) (w' := w) rfl rfl rfl rfl (by refine run_value (tab_index (P := Try.prog) ?_ ?_ ?_ (n / 256) ?_ _); kernel_rfl; decide +kernel; decide +kernel; (have := of_decide_eq_false c1; have := of_decide_eq_false c5; have := of_decide_eq_true c7; omega)) ?_
        refine rw_val (v := .int .i64 ((blen (n / 256) : Nat) : Int)) (w' := w) rfl rfl rfl rfl (by simp [go_sem, sEv, sLook, nbeq, i64_w]; exact wrap_id (by omega) (by have := blen_le (n / 256) 8 (by have := of_decide_eq_false c1; have := of_decide_eq_false c5; have := of_decide_eq_true c7; omega); omega)) ?_
        refine rw_val (v := .int .i64 (wrap64 (8 + ((blen (n / 256) : Nat) : Int)))) (w' := w) rfl rfl rfl rfl (by simp [go_sem, sEv, sLook, nbeq, i64_w]) ?_
        refine rw_val (v := .int .i64 (wrap64 (8 + ((blen (n / 256) : Nat) : Int)))) (w' := w) rfl rfl rfl rfl rfl ?_
        refine rw_end ?_
        refine w_weaken (G' := [(2, .int .i64 (wrap64 (8 + ((blen (n / 256) : Nat) : Int))))]) ⟨rfl, trivial⟩ ?_
        refine w_ret (post_ret1 rfl rfl ?_)
        have qc1 := of_decide_eq_false c1
        have qc5 := of_decide_eq_false c5
        have qc7 := of_decide_eq_true c7
        have b0_ := blen_shift (n) 8 (by have e_ := qc7; simp at e_ ⊢; omega)
        have hb_ := blen_le (n / 256) 8 (by simp; omega)
        simp only [show (2 : Nat) ^ 32 = 4294967296 by decide, show (2 : Nat) ^ 16 = 65536 by decide, show (2 : Nat) ^ 8 = 256 by decide] at *
        refine ⟨?_, Drawn0.refl _⟩
        congr 2
        unfold wrap64
        omega
      · refine w_skip ?_
        refine w_seq ?_
        refine w_region ?_
        refine rw_val (v := .int .i64 0) (w' := w) rfl rfl rfl rfl rfl ?_
        refine rw_val (v := .int .u64 (n : Int)) (w' := w) rfl rfl rfl rfl rfl ?_
        refine rw_val (v := .int .u8 ((n : Nat) : Int)) (w' := w) rfl rfl rfl rfl (by simp [go_sem, sEv, sLook, nbeq, i64_w]; exact u8_wrap _ (by omega) (by have := of_decide_eq_false c1; have := of_decide_eq_false c5; have := of_decide_eq_false c7; omega)) ?_
        refine rw_val (v := .int .u8 ((blen (n) : Nat) : Int)) (w' := w) rfl rfl rfl rfl (by refine run_value (tab_index (P := Try.prog) ?_ ?_ ?_ (n) ?_ _); kernel_rfl; decide +kernel; decide +kernel; (have := of_decide_eq_false c1; have := of_decide_eq_false c5; have := of_decide_eq_false c7; omega)) ?_
        refine rw_val (v := .int .i64 ((blen (n) : Nat) : Int)) (w' := w) rfl rfl rfl rfl (by simp [go_sem, sEv, sLook, nbeq, i64_w]; exact wrap_id (by omega) (by have := blen_le (n) 8 (by have := of_decide_eq_false c1; have := of_decide_eq_false c5; have := of_decide_eq_false c7; omega); omega)) ?_
        refine rw_val (v := .int .i64 (wrap64 (0 + ((blen (n) : Nat) : Int)))) (w' := w) rfl rfl rfl rfl (by simp [go_sem, sEv, sLook, nbeq, i64_w]) ?_
        refine rw_val (v := .int .i64 (wrap64 (0 + ((blen (n) : Nat) : Int)))) (w' := w) rfl rfl rfl rfl rfl ?_
        refine rw_end ?_
        refine w_weaken (G' := [(2, .int .i64 (wrap64 (0 + ((blen (n) : Nat) : Int))))]) ⟨rfl, trivial⟩ ?_
        refine w_ret (post_ret1 rfl rfl ?_)
        have qc1 := of_decide_eq_false c1
        have qc5 := of_decide_eq_false c5
        have qc7 := of_decide_eq_false c7
        have hb_ := blen_le (n) 8 (by simp; omega)
        simp only [show (2 : Nat) ^ 32 = 4294967296 by decide, show (2 : Nat) ^ 16 = 65536 by decide, show (2 : Nat) ^ 8 = 256 by decide] at *
        refine ⟨?_, Drawn0.refl _⟩
        congr 2
        unfold wrap64
        omega

def bits_Len64.f (k : Nat) (a0 : Int) : Option Int := if 0 ≤ a0 ∧ a0 < 18446744073709551616 then some ((blen a0.toNat : Nat) : Int) else none
theorem bits_Len64.mono : ∀ a0 k, LeO (bits_Len64.f k a0) (bits_Len64.f (k + 1) a0) := fun _ _ => LeO.refl _
theorem bits_Len64.calls (k : Nat) (a0 : Int) (r : Int) (w : World) (h : bits_Len64.f k a0 = some r) :
    Calls Try.prog 40 #[.int .u64 a0] w fun e w' => e = .returned (.int .i64 r) ∧ Drawn0 w w' := by
  unfold bits_Len64.f at h
  split at h
  · rename_i hr
    obtain rfl := Option.some.inj h
    obtain ⟨n, rfl⟩ := Int.eq_ofNat_of_zero_le hr.1
    exact len64_calls n (by omega) w
  · cases h
end Go.Proofs.Ytjndoihnpnmbjaa.PFrameSums
