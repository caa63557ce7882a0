/- Windows, what is left, the fixed fact: the walks. -/
import Derived.Test.YthhepaikogcddaaFlText
namespace Go.Proofs.Ythhepaikogcddaa.PFloorGroup
open Go.RowKit Go.Proofs.YthhepaikogcddaaW.PrintWords Go.Proofs.YthhepaikogcddaaW.PrintLast Go.Proofs.YthhepaikogcddaaW.PrintMore
open Go.Proofs.Ythhepaikogcddaa.Flow
set_option linter.unusedVariables false
set_option linter.unusedSimpArgs false

/-- A time's window, and what is left. -/
def fdiv (t r : Int) : Int := if r < 1 then 0 else t / r
def fmod (t r : Int) : Int := if r < 1 then 0 else t % r
theorem wrap_id {x : Int} (h1 : -9223372036854775808 ≤ x) (h2 : x ≤ 9223372036854775807) : wrap64 x = x := by unfold wrap64; omega
theorem ediv_range (t r : Int) (hr : ¬ r < 1) (h1 : -9223372036854775808 ≤ t) (h2 : t ≤ 9223372036854775807) : -9223372036854775808 ≤ t / r ∧ t / r ≤ 9223372036854775807 :=
  ⟨Int.le_ediv_of_mul_le (by omega) (by omega), Int.ediv_le_of_le_mul (by omega) (by omega)⟩
theorem td_case (t r : Int) (hr : ¬ r < 1) : (t.tmod r < 0 ∧ t < 0 ∧ t.tdiv r = t / r + 1 ∧ t.tmod r = t % r - r ∧ 0 < t % r) ∨ (¬ t.tmod r < 0 ∧ t.tdiv r = t / r ∧ t.tmod r = t % r) := by
  have hm := Int.emod_lt_of_pos t (by omega : 0 < r)
  have hm0 := Int.emod_nonneg t (by omega : r ≠ 0)
  have e1 := @Int.tdiv_eq_ediv t r
  have e2 := @Int.tmod_eq_emod t r
  have hs : r.sign = 1 := Int.sign_eq_one_of_pos (by omega)
  by_cases hc : 0 ≤ t ∨ r ∣ t
  · rw [if_pos hc] at e1 e2
    right
    omega
  · rw [if_neg hc] at e1 e2
    rw [hs] at e1
    left
    have hd : ¬ t % r = 0 := fun h => hc (Or.inr (Int.dvd_of_emod_eq_zero h))
    omega
theorem td_wrap (t r : Int) (hr : ¬ r < 1) (h1 : -9223372036854775808 ≤ t) (h2 : t ≤ 9223372036854775807) : wrap64 (t.tdiv r) = t.tdiv r := by
  have hq := ediv_range t r hr h1 h2
  rcases td_case t r hr with ⟨h3, h4, h5, h6, h7⟩ | ⟨h3, h5, h6⟩
  · have h8 : t / r < 0 := Int.ediv_neg_of_neg_of_pos h4 (by omega)
    rw [h5, wrap_id (by omega) (by omega)]
  · rw [h5, wrap_id hq.1 hq.2]
theorem td_neg (t r : Int) (hr : ¬ r < 1) (h1 : -9223372036854775808 ≤ t) (h2 : t ≤ 9223372036854775807) (h : t.tmod r < 0) : wrap64 (t.tdiv r - 1) = t / r := by
  have hq := ediv_range t r hr h1 h2
  rcases td_case t r hr with ⟨h3, h4, h5, h6, h7⟩ | ⟨h3, h5, h6⟩
  · rw [h5, wrap_id (by omega) (by omega)]
    omega
  · exact absurd h h3
theorem td_pos (t r : Int) (hr : ¬ r < 1) (h : ¬ t.tmod r < 0) : t.tdiv r = t / r := by
  rcases td_case t r hr with ⟨h3, h4, h5, h6, h7⟩ | ⟨h3, h5, h6⟩
  · exact absurd h3 h
  · exact h5
theorem and_ones (r : Int) (h1 : -9223372036854775808 ≤ r) (h2 : r ≤ 9223372036854775807) : bits .and .i64 r (-1) = r := by
  show IntKind.i64.wrap ((BitVec.ofInt 64 r &&& BitVec.ofInt 64 (-1)).toNat : Int) = r
  have h3 : BitVec.ofInt 64 (-1) = BitVec.allOnes 64 := by decide
  rw [h3, BitVec.and_allOnes, BitVec.toNat_ofInt]
  simp [IntKind.wrap, IntKind.bits, IntKind.signed]
  omega
theorem and_zero (r : Int) : bits .and .i64 r 0 = 0 := by
  show IntKind.i64.wrap ((BitVec.ofInt 64 r &&& BitVec.ofInt 64 0).toNat : Int) = 0
  have h3 : BitVec.ofInt 64 0 = 0#64 := by decide
  rw [h3, BitVec.and_zero]
  rfl
theorem mod_mask (t r : Int) (hr : ¬ r < 1) (h2 : r ≤ 9223372036854775807) : wrap64 (t.tmod r + bits .and .i64 r (t.tmod r / 9223372036854775808)) = t % r := by
  have hm := Int.emod_lt_of_pos t (by omega : 0 < r)
  have hm0 := Int.emod_nonneg t (by omega : r ≠ 0)
  rcases td_case t r hr with ⟨h3, h4, h5, h6, h7⟩ | ⟨h3, h5, h6⟩
  · rw [show t.tmod r / 9223372036854775808 = -1 by omega, and_ones r (by omega) h2, wrap_id (by omega) (by omega)]
    omega
  · rw [show t.tmod r / 9223372036854775808 = 0 by omega, and_zero, wrap_id (by omega) (by omega)]
    omega
theorem ref_quo (t r : Int) (hr : ¬ r < 1) (h0 : ¬ 0 ≤ t) : (t + 1).tdiv r = t / r + 1 := by
  have e1 : Int.tdiv (t + 1) r = -(Int.tdiv (-(t + 1)) r) := by rw [Int.neg_tdiv, Int.neg_neg]
  rw [e1, Int.tdiv_eq_ediv_of_nonneg (by omega)]
  have hm := Int.emod_lt_of_pos t (by omega : 0 < r)
  have hm0 := Int.emod_nonneg t (by omega : r ≠ 0)
  have hd := Int.mul_ediv_add_emod t r
  have : (-(t + 1)) / r = -(t / r) - 1 := by
    refine (Int.ediv_emod_unique (r := r - 1 - t % r) (by omega : 0 < r)).2 ⟨?_, by omega, by omega⟩ |>.1
    rw [Int.mul_sub, Int.mul_neg]
    omega
  rw [this]
  omega
theorem ref_rem (t r : Int) (hr : ¬ r < 1) (h0 : ¬ 0 ≤ t) : (-(t + 1)).tmod r = r - 1 - t % r := by
  rw [Int.tmod_eq_emod_of_nonneg (by omega)]
  have hm := Int.emod_lt_of_pos t (by omega : 0 < r)
  have hm0 := Int.emod_nonneg t (by omega : r ≠ 0)
  have hd := Int.mul_ediv_add_emod t r
  refine (Int.ediv_emod_unique (q := -(t / r) - 1) (by omega : 0 < r)).2 ⟨?_, by omega, by omega⟩ |>.2
  rw [Int.mul_sub, Int.mul_neg]
  omega
def wtext (ah al : Int) : ByteArray := (if ah < 0 then ⟨#[45]⟩ else ⟨#[]⟩) ++ strOfNums (digits (if ah < 0 then (-(ah * 18446744073709551616 + al)).toNat else (ah * 18446744073709551616 + al).toNat))
theorem text_calls (ah al : Int) (hah : -9223372036854775808 ≤ ah ∧ ah ≤ 9223372036854775807) (hal : 0 ≤ al ∧ al < 18446744073709551616) (w : World) :
    Calls Try.prog 31 #[.agg #[.int .i64 ah, .int .u64 al]] w fun e w' => e = .returned (.string (wtext ah al)) ∧ Below w.heap.size w w' := by
  by_cases h : ah < 0
  · exact text_neg ah al (-(ah * 18446744073709551616 + al)).toNat _ _ rfl hah hal (decide_eq_true h) (by omega) (by omega) (by unfold wtext; rw [if_pos h, if_pos h]) w
  · exact text_pos ah al (ah * 18446744073709551616 + al).toNat _ _ rfl hah hal (decide_eq_false h) (by omega) (by omega) (by unfold wtext; rw [if_neg h, if_neg h]) w
set_option maxHeartbeats 4000000 in
theorem div_lo (t r : Int) (ht : -9223372036854775808 ≤ t ∧ t ≤ 9223372036854775807) (hr : -9223372036854775808 ≤ r ∧ r ≤ 9223372036854775807) (hlt : decide (r < 1) = true) (w : World) :
    Calls Try.prog 17 #[.int .i64 t, .int .i64 r] w fun e w' => e = .returned (.int .i64 (fdiv t r)) ∧ Below w.heap.size w w' := by
  refine calls_flow Try.func17 rfl 18 rfl (Nat.le_of_ble_eq_true rfl) [(0, .int .i64 t), (1, .int .i64 r)] ?_ ?_
  · intro t v h; exact args_look rfl t v h
  refine w_seq ?_
  refine w_region ?_
  refine rw_val (v := .int .i64 0) (w' := w) rfl rfl rfl rfl rfl ?_
  refine rw_end ?_
  refine w_seq ?_
  refine w_seq ?_
  refine w_region ?_
  refine rw_val (v := .int .i64 r) (w' := w) rfl rfl rfl rfl rfl ?_
  refine rw_val (v := .bool (decide (r < 1))) (w' := w) rfl rfl rfl rfl (by simp [go_sem, sEv, sLook, nbeq, i64_w]) ?_
  refine rw_end ?_
  refine w_cond_t rfl rfl hlt ?_
  refine w_seq ?_
  refine w_region ?_
  refine rw_val (v := .int .i64 0) (w' := w) rfl rfl rfl rfl rfl ?_
  refine rw_end ?_
  refine w_ret (post_ret1 rfl rfl ?_)
  exact ⟨by rw [fdiv, if_pos (of_decide_eq_true hlt)], (Below.refl _ _)⟩
set_option maxHeartbeats 4000000 in
theorem div_hi (t r : Int) (ht : -9223372036854775808 ≤ t ∧ t ≤ 9223372036854775807) (hr : -9223372036854775808 ≤ r ∧ r ≤ 9223372036854775807) (hlt : decide (r < 1) = false) (hr0 : ¬ r < 1) (hr1 : ¬ r = 0) (w : World) :
    Calls Try.prog 17 #[.int .i64 t, .int .i64 r] w fun e w' => e = .returned (.int .i64 (fdiv t r)) ∧ Below w.heap.size w w' := by
  refine calls_flow Try.func17 rfl 18 rfl (Nat.le_of_ble_eq_true rfl) [(0, .int .i64 t), (1, .int .i64 r)] ?_ ?_
  · intro t v h; exact args_look rfl t v h
  refine w_seq ?_
  refine w_region ?_
  refine rw_val (v := .int .i64 0) (w' := w) rfl rfl rfl rfl rfl ?_
  refine rw_end ?_
  refine w_seq ?_
  refine w_seq ?_
  refine w_region ?_
  refine rw_val (v := .int .i64 r) (w' := w) rfl rfl rfl rfl rfl ?_
  refine rw_val (v := .bool (decide (r < 1))) (w' := w) rfl rfl rfl rfl (by simp [go_sem, sEv, sLook, nbeq, i64_w]) ?_
  refine rw_end ?_
  refine w_cond_f rfl rfl hlt ?_
  refine w_skip ?_
  refine w_seq ?_
  refine w_region ?_
  refine rw_val (v := .int .i64 t) (w' := w) rfl rfl rfl rfl rfl ?_
  refine rw_val (v := .int .i64 r) (w' := w) rfl rfl rfl rfl rfl ?_
  refine rw_val (v := .int .i64 (Int.tdiv t r)) (w' := w) rfl rfl rfl rfl (by simp [go_sem, sEv, sLook, nbeq, i64_w, hr1]; exact td_wrap t r hr0 ht.1 ht.2) ?_
  refine rw_val (v := .int .i64 (Int.tdiv t r)) (w' := w) rfl rfl rfl rfl rfl ?_
  refine rw_end ?_
  refine w_weaken (G' := [(0, .int .i64 t), (1, .int .i64 r), (4, .int .i64 0), (5, .int .i64 (Int.tdiv t r))]) ⟨rfl, rfl, rfl, rfl, trivial⟩ ?_
  refine w_seq ?_
  refine w_seq ?_
  refine w_region ?_
  refine rw_val (v := .int .i64 t) (w' := w) rfl rfl rfl rfl rfl ?_
  refine rw_val (v := .int .i64 r) (w' := w) rfl rfl rfl rfl rfl ?_
  refine rw_val (v := .int .i64 (Int.tmod t r)) (w' := w) rfl rfl rfl rfl (by simp [go_sem, sEv, sLook, nbeq, i64_w, hr1]) ?_
  refine rw_val (v := .bool (decide ((Int.tmod t r) < 0))) (w' := w) rfl rfl rfl rfl (by simp [go_sem, sEv, sLook, nbeq, i64_w]) ?_
  refine rw_end ?_
  refine w_weaken (G' := [(4, .int .i64 0), (5, .int .i64 (Int.tdiv t r)), (14, .bool (decide ((Int.tmod t r) < 0)))]) ⟨rfl, rfl, rfl, trivial⟩ ?_
  refine w_cond rfl rfl (fun cM => ?_) (fun cM => ?_)
  · refine w_region ?_
    refine rw_val (v := .int .i64 (Int.tdiv t r)) (w' := w) rfl rfl rfl rfl rfl ?_
    refine rw_val (v := .int .i64 (t / r)) (w' := w) rfl rfl rfl rfl (by simp [go_sem, sEv, sLook, nbeq, i64_w, hr1]; exact td_neg t r hr0 ht.1 ht.2 (of_decide_eq_true cM)) ?_
    refine rw_val (v := .int .i64 (t / r)) (w' := w) rfl rfl rfl rfl rfl ?_
    refine rw_end ?_
    refine w_seq ?_
    refine w_region ?_
    refine rw_val (v := .int .i64 (t / r)) (w' := w) rfl rfl rfl rfl rfl ?_
    refine rw_val (v := .int .i64 (t / r)) (w' := w) rfl rfl rfl rfl rfl ?_
    refine rw_end ?_
    refine w_ret (post_ret1 rfl rfl ?_)
    exact ⟨by rw [fdiv, if_neg hr0], (Below.refl _ _)⟩
  · refine w_skip ?_
    refine w_seq ?_
    refine w_region ?_
    refine rw_val (v := .int .i64 (Int.tdiv t r)) (w' := w) rfl rfl rfl rfl rfl ?_
    refine rw_val (v := .int .i64 (Int.tdiv t r)) (w' := w) rfl rfl rfl rfl rfl ?_
    refine rw_end ?_
    refine w_ret (post_ret1 rfl rfl ?_)
    exact ⟨by rw [td_pos t r hr0 (of_decide_eq_false cM), fdiv, if_neg hr0], (Below.refl _ _)⟩
theorem div_calls (t r : Int) (ht : -9223372036854775808 ≤ t ∧ t ≤ 9223372036854775807) (hr : -9223372036854775808 ≤ r ∧ r ≤ 9223372036854775807) (w : World) :
    Calls Try.prog 17 #[.int .i64 t, .int .i64 r] w fun e w' => e = .returned (.int .i64 (fdiv t r)) ∧ Below w.heap.size w w' := by
  by_cases h : r < 1
  · exact div_lo t r ht hr (decide_eq_true h) w
  · exact div_hi t r ht hr (decide_eq_false h) h (by omega) w
set_option maxHeartbeats 4000000 in
theorem mod_lo (t r : Int) (ht : -9223372036854775808 ≤ t ∧ t ≤ 9223372036854775807) (hr : -9223372036854775808 ≤ r ∧ r ≤ 9223372036854775807) (hlt : decide (r < 1) = true) (w : World) :
    Calls Try.prog 18 #[.int .i64 t, .int .i64 r] w fun e w' => e = .returned (.int .i64 (fmod t r)) ∧ Below w.heap.size w w' := by
  refine calls_flow Try.func18 rfl 17 rfl (Nat.le_of_ble_eq_true rfl) [(0, .int .i64 t), (1, .int .i64 r)] ?_ ?_
  · intro t v h; exact args_look rfl t v h
  refine w_seq ?_
  refine w_region ?_
  refine rw_val (v := .int .i64 0) (w' := w) rfl rfl rfl rfl rfl ?_
  refine rw_end ?_
  refine w_seq ?_
  refine w_seq ?_
  refine w_region ?_
  refine rw_val (v := .int .i64 r) (w' := w) rfl rfl rfl rfl rfl ?_
  refine rw_val (v := .bool (decide (r < 1))) (w' := w) rfl rfl rfl rfl (by simp [go_sem, sEv, sLook, nbeq, i64_w]) ?_
  refine rw_end ?_
  refine w_cond_t rfl rfl hlt ?_
  refine w_seq ?_
  refine w_region ?_
  refine rw_val (v := .int .i64 0) (w' := w) rfl rfl rfl rfl rfl ?_
  refine rw_end ?_
  refine w_ret (post_ret1 rfl rfl ?_)
  exact ⟨by rw [fmod, if_pos (of_decide_eq_true hlt)], (Below.refl _ _)⟩
set_option maxHeartbeats 4000000 in
theorem mod_hi (t r : Int) (ht : -9223372036854775808 ≤ t ∧ t ≤ 9223372036854775807) (hr : -9223372036854775808 ≤ r ∧ r ≤ 9223372036854775807) (hlt : decide (r < 1) = false) (hr0 : ¬ r < 1) (hr1 : ¬ r = 0) (w : World) :
    Calls Try.prog 18 #[.int .i64 t, .int .i64 r] w fun e w' => e = .returned (.int .i64 (fmod t r)) ∧ Below w.heap.size w w' := by
  refine calls_flow Try.func18 rfl 17 rfl (Nat.le_of_ble_eq_true rfl) [(0, .int .i64 t), (1, .int .i64 r)] ?_ ?_
  · intro t v h; exact args_look rfl t v h
  refine w_seq ?_
  refine w_region ?_
  refine rw_val (v := .int .i64 0) (w' := w) rfl rfl rfl rfl rfl ?_
  refine rw_end ?_
  refine w_seq ?_
  refine w_seq ?_
  refine w_region ?_
  refine rw_val (v := .int .i64 r) (w' := w) rfl rfl rfl rfl rfl ?_
  refine rw_val (v := .bool (decide (r < 1))) (w' := w) rfl rfl rfl rfl (by simp [go_sem, sEv, sLook, nbeq, i64_w]) ?_
  refine rw_end ?_
  refine w_cond_f rfl rfl hlt ?_
  refine w_skip ?_
  refine w_seq ?_
  refine w_region ?_
  refine rw_val (v := .int .i64 t) (w' := w) rfl rfl rfl rfl rfl ?_
  refine rw_val (v := .int .i64 r) (w' := w) rfl rfl rfl rfl rfl ?_
  refine rw_val (v := .int .i64 (Int.tmod t r)) (w' := w) rfl rfl rfl rfl (by simp [go_sem, sEv, sLook, nbeq, i64_w, hr1]) ?_
  refine rw_val (v := .int .i64 (Int.tmod t r)) (w' := w) rfl rfl rfl rfl rfl ?_
  refine rw_end ?_
  refine w_weaken (G' := [(1, .int .i64 r), (4, .int .i64 0), (5, .int .i64 (Int.tmod t r))]) ⟨rfl, rfl, rfl, trivial⟩ ?_
  refine w_seq ?_
  refine w_region ?_
  refine rw_val (v := .int .i64 (Int.tmod t r)) (w' := w) rfl rfl rfl rfl rfl ?_
  refine rw_val (v := .int .i64 r) (w' := w) rfl rfl rfl rfl rfl ?_
  refine rw_val (v := .int .i64 (Int.tmod t r)) (w' := w) rfl rfl rfl rfl rfl ?_
  refine rw_val (v := .int .i64 (Int.tmod t r / 9223372036854775808)) (w' := w) rfl rfl rfl rfl (by simp [go_sem, sEv, sLook, nbeq, i64_w, hr1]) ?_
  refine rw_val (v := .int .i64 (Go.bits .and .i64 r (Int.tmod t r / 9223372036854775808))) (w' := w) rfl rfl rfl rfl (by simp [go_sem, sEv, sLook, nbeq, i64_w]) ?_
  refine rw_val (v := .int .i64 (t % r)) (w' := w) rfl rfl rfl rfl (by simp [go_sem, sEv, sLook, nbeq, i64_w, hr1]; exact mod_mask t r hr0 hr.2) ?_
  refine rw_val (v := .int .i64 (t % r)) (w' := w) rfl rfl rfl rfl rfl ?_
  refine rw_end ?_
  refine w_weaken (G' := [(4, .int .i64 (t % r))]) ⟨rfl, trivial⟩ ?_
  refine w_ret (post_ret1 rfl rfl ?_)
  exact ⟨by rw [fmod, if_neg hr0], (Below.refl _ _)⟩
theorem mod_calls (t r : Int) (ht : -9223372036854775808 ≤ t ∧ t ≤ 9223372036854775807) (hr : -9223372036854775808 ≤ r ∧ r ≤ 9223372036854775807) (w : World) :
    Calls Try.prog 18 #[.int .i64 t, .int .i64 r] w fun e w' => e = .returned (.int .i64 (fmod t r)) ∧ Below w.heap.size w w' := by
  by_cases h : r < 1
  · exact mod_lo t r ht hr (decide_eq_true h) w
  · exact mod_hi t r ht hr (decide_eq_false h) h (by omega) w
set_option maxHeartbeats 4000000 in
theorem rdiv_lo (t r : Int) (ht : -9223372036854775808 ≤ t ∧ t ≤ 9223372036854775807) (hr : -9223372036854775808 ≤ r ∧ r ≤ 9223372036854775807) (hlt : decide (r < 1) = true) (w : World) :
    Calls Try.prog 19 #[.int .i64 t, .int .i64 r] w fun e w' => e = .returned (.int .i64 (fdiv t r)) ∧ Below w.heap.size w w' := by
  refine calls_flow Try.func19 rfl 19 rfl (Nat.le_of_ble_eq_true rfl) [(0, .int .i64 t), (1, .int .i64 r)] ?_ ?_
  · intro t v h; exact args_look rfl t v h
  refine w_seq ?_
  refine w_region ?_
  refine rw_val (v := .int .i64 0) (w' := w) rfl rfl rfl rfl rfl ?_
  refine rw_end ?_
  refine w_seq ?_
  refine w_seq ?_
  refine w_region ?_
  refine rw_val (v := .int .i64 r) (w' := w) rfl rfl rfl rfl rfl ?_
  refine rw_val (v := .bool (decide (r < 1))) (w' := w) rfl rfl rfl rfl (by simp [go_sem, sEv, sLook, nbeq, i64_w]) ?_
  refine rw_end ?_
  refine w_cond_t rfl rfl hlt ?_
  refine w_seq ?_
  refine w_region ?_
  refine rw_val (v := .int .i64 0) (w' := w) rfl rfl rfl rfl rfl ?_
  refine rw_end ?_
  refine w_ret (post_ret1 rfl rfl ?_)
  exact ⟨by rw [fdiv, if_pos (of_decide_eq_true hlt)], (Below.refl _ _)⟩
set_option maxHeartbeats 4000000 in
theorem rdiv_hi (t r : Int) (ht : -9223372036854775808 ≤ t ∧ t ≤ 9223372036854775807) (hr : -9223372036854775808 ≤ r ∧ r ≤ 9223372036854775807) (hlt : decide (r < 1) = false) (hr0 : ¬ r < 1) (hr1 : ¬ r = 0) (w : World) :
    Calls Try.prog 19 #[.int .i64 t, .int .i64 r] w fun e w' => e = .returned (.int .i64 (fdiv t r)) ∧ Below w.heap.size w w' := by
  refine calls_flow Try.func19 rfl 19 rfl (Nat.le_of_ble_eq_true rfl) [(0, .int .i64 t), (1, .int .i64 r)] ?_ ?_
  · intro t v h; exact args_look rfl t v h
  refine w_seq ?_
  refine w_region ?_
  refine rw_val (v := .int .i64 0) (w' := w) rfl rfl rfl rfl rfl ?_
  refine rw_end ?_
  refine w_seq ?_
  refine w_seq ?_
  refine w_region ?_
  refine rw_val (v := .int .i64 r) (w' := w) rfl rfl rfl rfl rfl ?_
  refine rw_val (v := .bool (decide (r < 1))) (w' := w) rfl rfl rfl rfl (by simp [go_sem, sEv, sLook, nbeq, i64_w]) ?_
  refine rw_end ?_
  refine w_cond_f rfl rfl hlt ?_
  refine w_skip ?_
  refine w_seq ?_
  refine w_seq ?_
  refine w_region ?_
  refine rw_val (v := .int .i64 t) (w' := w) rfl rfl rfl rfl rfl ?_
  refine rw_val (v := .bool (decide (0 ≤ t))) (w' := w) rfl rfl rfl rfl (by simp [go_sem, sEv, sLook, nbeq, i64_w]) ?_
  refine rw_end ?_
  refine w_cond rfl rfl (fun cT => ?_) (fun cT => ?_)
  · refine w_seq ?_
    refine w_region ?_
    refine rw_val (v := .int .i64 t) (w' := w) rfl rfl rfl rfl rfl ?_
    refine rw_val (v := .int .i64 r) (w' := w) rfl rfl rfl rfl rfl ?_
    refine rw_val (v := .int .i64 (t / r)) (w' := w) rfl rfl rfl rfl (by simp [go_sem, sEv, sLook, nbeq, i64_w, hr1]; rw [td_wrap t r hr0 ht.1 ht.2]; exact Int.tdiv_eq_ediv_of_nonneg (of_decide_eq_true cT)) ?_
    refine rw_val (v := .int .i64 (t / r)) (w' := w) rfl rfl rfl rfl rfl ?_
    refine rw_end ?_
    refine w_weaken (G' := [(0, .int .i64 t), (1, .int .i64 r), (4, .int .i64 (t / r))]) ⟨rfl, rfl, rfl, trivial⟩ ?_
    refine w_ret (post_ret1 rfl rfl ?_)
    exact ⟨by rw [fdiv, if_neg hr0], (Below.refl _ _)⟩
  · refine w_skip ?_
    refine w_seq ?_
    refine w_region ?_
    refine rw_val (v := .int .i64 t) (w' := w) rfl rfl rfl rfl rfl ?_
    refine rw_val (v := .int .i64 (t + 1)) (w' := w) rfl rfl rfl rfl (by simp [go_sem, sEv, sLook, nbeq, i64_w, hr1]; exact wrap_id (by omega) (by have := of_decide_eq_false cT; omega)) ?_
    refine rw_val (v := .int .i64 (-(t + 1))) (w' := w) rfl rfl rfl rfl (by simp [go_sem, sEv, sLook, nbeq, i64_w, hr1]; exact wrap_id (by have := of_decide_eq_false cT; omega) (by omega)) ?_
    refine rw_val (v := .int .i64 (t + 1)) (w' := w) rfl rfl rfl rfl (by simp [go_sem, sEv, sLook, nbeq, i64_w, hr1]; exact wrap_id (by omega) (by have := of_decide_eq_false cT; omega)) ?_
    refine rw_val (v := .int .i64 r) (w' := w) rfl rfl rfl rfl rfl ?_
    refine rw_val (v := .int .i64 (t / r + 1)) (w' := w) rfl rfl rfl rfl (by simp [go_sem, sEv, sLook, nbeq, i64_w, hr1]; rw [td_wrap (t + 1) r hr0 (by omega) (by have := of_decide_eq_false cT; omega)]; exact ref_quo t r hr0 (of_decide_eq_false cT)) ?_
    refine rw_val (v := .int .i64 (t / r)) (w' := w) rfl rfl rfl rfl (by simp [go_sem, sEv, sLook, nbeq, i64_w, hr1]; exact wrap_id (ediv_range t r hr0 ht.1 ht.2).1 (ediv_range t r hr0 ht.1 ht.2).2) ?_
    refine rw_val (v := .int .i64 (t / r)) (w' := w) rfl rfl rfl rfl rfl ?_
    refine rw_end ?_
    refine w_weaken (G' := [(4, .int .i64 (t / r))]) ⟨rfl, trivial⟩ ?_
    refine w_ret (post_ret1 rfl rfl ?_)
    exact ⟨by rw [fdiv, if_neg hr0], (Below.refl _ _)⟩
theorem rdiv_calls (t r : Int) (ht : -9223372036854775808 ≤ t ∧ t ≤ 9223372036854775807) (hr : -9223372036854775808 ≤ r ∧ r ≤ 9223372036854775807) (w : World) :
    Calls Try.prog 19 #[.int .i64 t, .int .i64 r] w fun e w' => e = .returned (.int .i64 (fdiv t r)) ∧ Below w.heap.size w w' := by
  by_cases h : r < 1
  · exact rdiv_lo t r ht hr (decide_eq_true h) w
  · exact rdiv_hi t r ht hr (decide_eq_false h) h (by omega) w
set_option maxHeartbeats 4000000 in
theorem rmod_lo (t r : Int) (ht : -9223372036854775808 ≤ t ∧ t ≤ 9223372036854775807) (hr : -9223372036854775808 ≤ r ∧ r ≤ 9223372036854775807) (hlt : decide (r < 1) = true) (w : World) :
    Calls Try.prog 20 #[.int .i64 t, .int .i64 r] w fun e w' => e = .returned (.int .i64 (fmod t r)) ∧ Below w.heap.size w w' := by
  refine calls_flow Try.func20 rfl 20 rfl (Nat.le_of_ble_eq_true rfl) [(0, .int .i64 t), (1, .int .i64 r)] ?_ ?_
  · intro t v h; exact args_look rfl t v h
  refine w_seq ?_
  refine w_region ?_
  refine rw_val (v := .int .i64 0) (w' := w) rfl rfl rfl rfl rfl ?_
  refine rw_end ?_
  refine w_seq ?_
  refine w_seq ?_
  refine w_region ?_
  refine rw_val (v := .int .i64 r) (w' := w) rfl rfl rfl rfl rfl ?_
  refine rw_val (v := .bool (decide (r < 1))) (w' := w) rfl rfl rfl rfl (by simp [go_sem, sEv, sLook, nbeq, i64_w]) ?_
  refine rw_end ?_
  refine w_cond_t rfl rfl hlt ?_
  refine w_seq ?_
  refine w_region ?_
  refine rw_val (v := .int .i64 0) (w' := w) rfl rfl rfl rfl rfl ?_
  refine rw_end ?_
  refine w_ret (post_ret1 rfl rfl ?_)
  exact ⟨by rw [fmod, if_pos (of_decide_eq_true hlt)], (Below.refl _ _)⟩
set_option maxHeartbeats 4000000 in
theorem rmod_hi (t r : Int) (ht : -9223372036854775808 ≤ t ∧ t ≤ 9223372036854775807) (hr : -9223372036854775808 ≤ r ∧ r ≤ 9223372036854775807) (hlt : decide (r < 1) = false) (hr0 : ¬ r < 1) (hr1 : ¬ r = 0) (w : World) :
    Calls Try.prog 20 #[.int .i64 t, .int .i64 r] w fun e w' => e = .returned (.int .i64 (fmod t r)) ∧ Below w.heap.size w w' := by
  refine calls_flow Try.func20 rfl 20 rfl (Nat.le_of_ble_eq_true rfl) [(0, .int .i64 t), (1, .int .i64 r)] ?_ ?_
  · intro t v h; exact args_look rfl t v h
  refine w_seq ?_
  refine w_region ?_
  refine rw_val (v := .int .i64 0) (w' := w) rfl rfl rfl rfl rfl ?_
  refine rw_end ?_
  refine w_seq ?_
  refine w_seq ?_
  refine w_region ?_
  refine rw_val (v := .int .i64 r) (w' := w) rfl rfl rfl rfl rfl ?_
  refine rw_val (v := .bool (decide (r < 1))) (w' := w) rfl rfl rfl rfl (by simp [go_sem, sEv, sLook, nbeq, i64_w]) ?_
  refine rw_end ?_
  refine w_cond_f rfl rfl hlt ?_
  refine w_skip ?_
  refine w_seq ?_
  refine w_seq ?_
  refine w_region ?_
  refine rw_val (v := .int .i64 t) (w' := w) rfl rfl rfl rfl rfl ?_
  refine rw_val (v := .bool (decide (0 ≤ t))) (w' := w) rfl rfl rfl rfl (by simp [go_sem, sEv, sLook, nbeq, i64_w]) ?_
  refine rw_end ?_
  refine w_cond rfl rfl (fun cT => ?_) (fun cT => ?_)
  · refine w_seq ?_
    refine w_region ?_
    refine rw_val (v := .int .i64 t) (w' := w) rfl rfl rfl rfl rfl ?_
    refine rw_val (v := .int .i64 r) (w' := w) rfl rfl rfl rfl rfl ?_
    refine rw_val (v := .int .i64 (t % r)) (w' := w) rfl rfl rfl rfl (by simp [go_sem, sEv, sLook, nbeq, i64_w, hr1]; exact Int.tmod_eq_emod_of_nonneg (of_decide_eq_true cT)) ?_
    refine rw_val (v := .int .i64 (t % r)) (w' := w) rfl rfl rfl rfl rfl ?_
    refine rw_end ?_
    refine w_weaken (G' := [(0, .int .i64 t), (1, .int .i64 r), (4, .int .i64 (t % r))]) ⟨rfl, rfl, rfl, trivial⟩ ?_
    refine w_ret (post_ret1 rfl rfl ?_)
    exact ⟨by rw [fmod, if_neg hr0], (Below.refl _ _)⟩
  · refine w_skip ?_
    refine w_seq ?_
    refine w_region ?_
    refine rw_val (v := .int .i64 r) (w' := w) rfl rfl rfl rfl rfl ?_
    refine rw_val (v := .int .i64 (r - 1)) (w' := w) rfl rfl rfl rfl (by simp [go_sem, sEv, sLook, nbeq, i64_w, hr1]; exact wrap_id (by omega) (by omega)) ?_
    refine rw_val (v := .int .i64 t) (w' := w) rfl rfl rfl rfl rfl ?_
    refine rw_val (v := .int .i64 (t + 1)) (w' := w) rfl rfl rfl rfl (by simp [go_sem, sEv, sLook, nbeq, i64_w, hr1]; exact wrap_id (by omega) (by have := of_decide_eq_false cT; omega)) ?_
    refine rw_val (v := .int .i64 (-(t + 1))) (w' := w) rfl rfl rfl rfl (by simp [go_sem, sEv, sLook, nbeq, i64_w, hr1]; exact wrap_id (by have := of_decide_eq_false cT; omega) (by omega)) ?_
    refine rw_val (v := .int .i64 r) (w' := w) rfl rfl rfl rfl rfl ?_
    refine rw_val (v := .int .i64 (r - 1 - t % r)) (w' := w) rfl rfl rfl rfl (by simp [go_sem, sEv, sLook, nbeq, i64_w, hr1]; rw [← Int.neg_tmod]; exact ref_rem t r hr0 (of_decide_eq_false cT)) ?_
    refine rw_val (v := .int .i64 (t % r)) (w' := w) rfl rfl rfl rfl (by simp [go_sem, sEv, sLook, nbeq, i64_w, hr1]; have := Int.emod_lt_of_pos t (by omega : 0 < r); have := Int.emod_nonneg t hr1; rw [show r - 1 - (r - 1 - t % r) = t % r by omega]; exact wrap_id (by omega) (by omega)) ?_
    refine rw_val (v := .int .i64 (t % r)) (w' := w) rfl rfl rfl rfl rfl ?_
    refine rw_end ?_
    refine w_weaken (G' := [(4, .int .i64 (t % r))]) ⟨rfl, trivial⟩ ?_
    refine w_ret (post_ret1 rfl rfl ?_)
    exact ⟨by rw [fmod, if_neg hr0], (Below.refl _ _)⟩
theorem rmod_calls (t r : Int) (ht : -9223372036854775808 ≤ t ∧ t ≤ 9223372036854775807) (hr : -9223372036854775808 ≤ r ∧ r ≤ 9223372036854775807) (w : World) :
    Calls Try.prog 20 #[.int .i64 t, .int .i64 r] w fun e w' => e = .returned (.int .i64 (fmod t r)) ∧ Below w.heap.size w w' := by
  by_cases h : r < 1
  · exact rmod_lo t r ht hr (decide_eq_true h) w
  · exact rmod_hi t r ht hr (decide_eq_false h) h (by omega) w
set_option maxHeartbeats 4000000 in
theorem in_calls (t k r : Int) (ht : -9223372036854775808 ≤ t ∧ t ≤ 9223372036854775807) (hr : -9223372036854775808 ≤ r ∧ r ≤ 9223372036854775807)  (w : World) :
    Calls Try.prog 21 #[.int .i64 t, .int .i64 k, .int .i64 r] w fun e w' => e = .returned (.bool (decide (1 ≤ r) && (fdiv t r == k))) ∧ Below w.heap.size w w' := by
  refine calls_flow Try.func21 rfl 16 rfl (Nat.le_of_ble_eq_true rfl) [(0, .int .i64 t), (1, .int .i64 k), (2, .int .i64 r)] ?_ ?_
  · intro t v h; exact args_look rfl t v h
  refine w_seq ?_
  refine w_region ?_
  refine rw_val (v := .bool false) (w' := w) rfl rfl rfl rfl rfl ?_
  refine rw_end ?_
  refine w_seq ?_
  refine w_region ?_
  refine rw_val (v := .int .i64 r) (w' := w) rfl rfl rfl rfl rfl ?_
  refine rw_val (v := .bool (decide (1 ≤ r))) (w' := w) rfl rfl rfl rfl (by simp [go_sem, sEv, sLook, nbeq, i64_w]) ?_
  refine rw_val (v := .bool (decide (1 ≤ r))) (w' := w) rfl rfl rfl rfl rfl ?_
  rcases bcase (decide (1 ≤ r)) with c1 | c1
  · refine rw_off (c := decide (1 ≤ r)) rfl rfl rfl (by simp [c1]) rfl rfl ?_
    refine rw_off (c := decide (1 ≤ r)) rfl rfl rfl (by simp [c1]) rfl rfl ?_
    refine rw_off (c := decide (1 ≤ r)) rfl rfl rfl (by simp [c1]) rfl rfl ?_
    refine rw_off (c := decide (1 ≤ r)) rfl rfl rfl (by simp [c1]) rfl rfl ?_
    refine rw_off (c := decide (1 ≤ r)) rfl rfl rfl (by simp [c1]) rfl rfl ?_
    refine rw_val (v := .bool false) (w' := w) rfl rfl rfl rfl (by simp [go_sem, sEv, sLook, nbeq, i64_w, c1]) ?_
    refine rw_val (v := .bool false) (w' := w) rfl rfl rfl rfl rfl ?_
    refine rw_end ?_
    refine w_weaken (G' := [(6, .bool false)]) ⟨rfl, trivial⟩ ?_
    refine w_ret (post_ret1 rfl rfl ?_)
    exact ⟨by simp [c1], (Below.refl _ _)⟩
  · refine rw_gval (c := decide (1 ≤ r)) (v := .int .i64 t) (w' := w) rfl rfl rfl (by simp [c1]) rfl rfl rfl (by rfl) ?_
    refine rw_gval (c := decide (1 ≤ r)) (v := .int .i64 r) (w' := w) rfl rfl rfl (by simp [c1]) rfl rfl rfl (by rfl) ?_
    refine rw_gcall (c := decide (1 ≤ r)) rfl rfl rfl (by simp [c1]) rfl rfl rfl (f := 17) (args := #[.int .i64 t, .int .i64 r]) (by simp [go_sem, sEv, sLook, nbeq, i64_w]) (div_calls t r (by first | omega | exact ⟨by omega, by omega⟩ | assumption) (by first | omega | exact ⟨by omega, by omega⟩ | assumption) w) ?_
    rintro e_ w2 ⟨rfl, hb3⟩
    refine ⟨_, rfl, ?_⟩
    have hs_w2 := hb3.size
    refine rw_gval (c := decide (1 ≤ r)) (v := .int .i64 k) (w' := w2) rfl rfl rfl (by simp [c1]) rfl rfl rfl (by rfl) ?_
    refine rw_gval (c := decide (1 ≤ r)) (v := .bool ((fdiv t r) == k)) (w' := w2) rfl rfl rfl (by simp [c1]) rfl rfl rfl (by simp [go_sem, sEv, sLook, nbeq, i64_w]) ?_
    refine rw_val (v := .bool ((fdiv t r) == k)) (w' := w2) rfl rfl rfl rfl (by simp [go_sem, sEv, sLook, nbeq, i64_w, c1]) ?_
    refine rw_val (v := .bool ((fdiv t r) == k)) (w' := w2) rfl rfl rfl rfl rfl ?_
    refine rw_end ?_
    refine w_weaken (G' := [(6, .bool ((fdiv t r) == k))]) ⟨rfl, trivial⟩ ?_
    refine w_ret (post_ret1 rfl rfl ?_)
    exact ⟨by simp [c1], hb3⟩
set_option maxHeartbeats 4000000 in
theorem alive_calls  (w : World) :
    Calls Try.prog 13 #[] w fun e w' => e = .returned (.bool true) ∧ Below w.heap.size w w' := by
  refine calls_flow Try.func13 rfl 16 rfl (Nat.le_of_ble_eq_true rfl) [] ?_ ?_
  · intro t v h; exact args_look rfl t v h
  refine w_seq ?_
  refine w_region ?_
  refine rw_val (v := .bool false) (w' := w) rfl rfl rfl rfl rfl ?_
  refine rw_end ?_
  refine w_seq ?_
  refine w_region ?_
  refine rw_call rfl rfl rfl rfl (f := 17) (args := #[.int .i64 (-1), .int .i64 10]) (by simp [go_sem, sEv, sLook, nbeq, i64_w]) (div_calls (-1) 10 (by first | omega | exact ⟨by omega, by omega⟩ | assumption) (by first | omega | exact ⟨by omega, by omega⟩ | assumption) w) ?_
  rintro e_ w1 ⟨rfl, hb2⟩
  refine ⟨_, rfl, ?_⟩
  have hs_w1 := hb2.size
  refine rw_val (v := .bool ((fdiv (-1) 10) == (-1))) (w' := w1) rfl rfl rfl rfl (by simp [go_sem, sEv, sLook, nbeq, i64_w]) ?_
  refine rw_val (v := .bool ((fdiv (-1) 10) == (-1))) (w' := w1) rfl rfl rfl rfl rfl ?_
  have hq3 : ((fdiv (-1) 10) == (-1)) = true := by decide +kernel
  refine rw_gcall (c := ((fdiv (-1) 10) == (-1))) rfl rfl rfl (by simp [hq3]) rfl rfl rfl (f := 18) (args := #[.int .i64 (-1), .int .i64 10]) (by simp [go_sem, sEv, sLook, nbeq, i64_w]) (mod_calls (-1) 10 (by first | omega | exact ⟨by omega, by omega⟩ | assumption) (by first | omega | exact ⟨by omega, by omega⟩ | assumption) w1) ?_
  rintro e_ w4 ⟨rfl, hb5⟩
  refine ⟨_, rfl, ?_⟩
  have hs_w4 := hb5.size
  refine rw_gval (c := ((fdiv (-1) 10) == (-1))) (v := .bool ((fmod (-1) 10) == 9)) (w' := w4) rfl rfl rfl (by simp [hq3]) rfl rfl rfl (by simp [go_sem, sEv, sLook, nbeq, i64_w]) ?_
  refine rw_val (v := .bool ((fmod (-1) 10) == 9)) (w' := w4) rfl rfl rfl rfl (by simp [go_sem, sEv, sLook, nbeq, i64_w, hq3]) ?_
  refine rw_val (v := .bool ((fmod (-1) 10) == 9)) (w' := w4) rfl rfl rfl rfl rfl ?_
  have hq6 : ((fmod (-1) 10) == 9) = true := by decide +kernel
  refine rw_gcall (c := ((fmod (-1) 10) == 9)) rfl rfl rfl (by simp [hq6]) rfl rfl rfl (f := 17) (args := #[.int .i64 (-9223372036854775808), .int .i64 3]) (by simp [go_sem, sEv, sLook, nbeq, i64_w]) (div_calls (-9223372036854775808) 3 (by first | omega | exact ⟨by omega, by omega⟩ | assumption) (by first | omega | exact ⟨by omega, by omega⟩ | assumption) w4) ?_
  rintro e_ w7 ⟨rfl, hb8⟩
  refine ⟨_, rfl, ?_⟩
  have hs_w7 := hb8.size
  refine rw_gval (c := ((fmod (-1) 10) == 9)) (v := .bool ((fdiv (-9223372036854775808) 3) == (-3074457345618258603))) (w' := w7) rfl rfl rfl (by simp [hq6]) rfl rfl rfl (by simp [go_sem, sEv, sLook, nbeq, i64_w]) ?_
  refine rw_val (v := .bool ((fdiv (-9223372036854775808) 3) == (-3074457345618258603))) (w' := w7) rfl rfl rfl rfl (by simp [go_sem, sEv, sLook, nbeq, i64_w, hq6]) ?_
  refine rw_val (v := .bool ((fdiv (-9223372036854775808) 3) == (-3074457345618258603))) (w' := w7) rfl rfl rfl rfl rfl ?_
  have hq9 : ((fdiv (-9223372036854775808) 3) == (-3074457345618258603)) = true := by decide +kernel
  refine rw_gval (c := ((fdiv (-9223372036854775808) 3) == (-3074457345618258603))) (v := .agg #[.int .i64 (-1), .int .u64 0]) (w' := w7) rfl rfl rfl (by simp [hq9]) rfl rfl rfl (by kernel_rfl) ?_
  refine rw_gcall (c := ((fdiv (-9223372036854775808) 3) == (-3074457345618258603))) rfl rfl rfl (by simp [hq9]) rfl rfl rfl (f := 31) (args := #[.agg #[.int .i64 (-1), .int .u64 0]]) (by simp [go_sem, sEv, sLook, nbeq, i64_w]) (text_calls (-1) 0 (by first | omega | exact ⟨by omega, by omega⟩ | assumption) (by first | omega | exact ⟨by omega, by omega⟩ | assumption) w7) ?_
  rintro e_ w10 ⟨rfl, hb11⟩
  refine ⟨_, rfl, ?_⟩
  have hs_w10 := hb11.size
  refine rw_gval (c := ((fdiv (-9223372036854775808) 3) == (-3074457345618258603))) (v := .bool true) (w' := w10) rfl rfl rfl (by simp [hq9]) rfl rfl rfl (by simp [go_sem, sEv, sLook, nbeq, i64_w]; decide +kernel) ?_
  refine rw_val (v := .bool true) (w' := w10) rfl rfl rfl rfl (by simp [go_sem, sEv, sLook, nbeq, i64_w, hq9]) ?_
  refine rw_val (v := .bool true) (w' := w10) rfl rfl rfl rfl rfl ?_
  refine rw_end ?_
  refine w_weaken (G' := [(0, .bool true)]) ⟨rfl, trivial⟩ ?_
  refine w_ret (post_ret1 rfl rfl ?_)
  exact ⟨rfl, (chain (chain (chain hb2 hb5) hb8) hb11)⟩
end Go.Proofs.Ythhepaikogcddaa.PFloorGroup
