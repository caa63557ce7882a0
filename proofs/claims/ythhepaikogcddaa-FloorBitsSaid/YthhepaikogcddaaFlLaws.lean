/- Laws on windows: the walks. -/
import Derived.Test.YthhepaikogcddaaFlOps
namespace Go.Proofs.Ythhepaikogcddaa.PFloorGroup
open Go.RowKit Go.Proofs.YthhepaikogcddaaW.PrintWords Go.Proofs.YthhepaikogcddaaW.PrintLast Go.Proofs.YthhepaikogcddaaW.PrintMore
open Go.Proofs.Ythhepaikogcddaa.Flow
set_option linter.unusedVariables false
set_option linter.unusedSimpArgs false

theorem fdiv_range (t r : Int) (ht : -9223372036854775808 ≤ t ∧ t ≤ 9223372036854775807) : -9223372036854775808 ≤ fdiv t r ∧ fdiv t r ≤ 9223372036854775807 := by
  unfold fdiv
  split
  · omega
  · exact ediv_range t r ‹_› ht.1 ht.2
theorem fmod_range (t r : Int) (hr : r ≤ 9223372036854775807) : -9223372036854775808 ≤ fmod t r ∧ fmod t r ≤ 9223372036854775807 := by
  unfold fmod
  split
  · omega
  · have := Int.emod_lt_of_pos t (by omega : 0 < r)
    have := Int.emod_nonneg t (by omega : r ≠ 0)
    omega
theorem shift_div (t : Int) (s : Nat) : fdiv t ((2 ^ s : Nat) : Int) = t / ((2 ^ s : Nat) : Int) := by
  have : 0 < 2 ^ s := Nat.two_pow_pos s
  unfold fdiv
  rw [if_neg (by omega)]
theorem shift_mod (t : Int) (s : Nat) : fmod t ((2 ^ s : Nat) : Int) = t % ((2 ^ s : Nat) : Int) := by
  have : 0 < 2 ^ s := Nat.two_pow_pos s
  unfold fmod
  rw [if_neg (by omega)]
theorem pow_lt (s : Nat) (hs : s < 63) : 2 ^ s ≤ 4611686018427387904 := by
  have := Nat.pow_le_pow_right (n := 2) (by decide) (by omega : s ≤ 62)
  simpa using this
theorem and_mask (t : Int) (s : Nat) (hs : s < 63) : bits .and .i64 t (((2 ^ s : Nat) : Int) - 1) = t % ((2 ^ s : Nat) : Int) := by
  have h0 : 0 < 2 ^ s := Nat.two_pow_pos s
  have h1 := pow_lt s hs
  show IntKind.i64.wrap ((BitVec.ofInt 64 t &&& BitVec.ofInt 64 (((2 ^ s : Nat) : Int) - 1)).toNat : Int) = _
  rw [BitVec.toNat_and]
  have e1 : (BitVec.ofInt 64 (((2 ^ s : Nat) : Int) - 1)).toNat = 2 ^ s - 1 := by
    rw [BitVec.toNat_ofInt]
    omega
  rw [e1, Nat.and_two_pow_sub_one_eq_mod, BitVec.toNat_ofInt]
  have hd : ((2 ^ s : Nat) : Int) ∣ 18446744073709551616 := by
    refine ⟨((2 ^ (64 - s) : Nat) : Int), ?_⟩
    have : 2 ^ s * 2 ^ (64 - s) = 18446744073709551616 := by rw [← Nat.pow_add, show s + (64 - s) = 64 by omega]
    omega
  have e2 : ((t % 18446744073709551616).toNat % 2 ^ s : Nat) = t % ((2 ^ s : Nat) : Int) := by
    rw [Int.natCast_emod, Int.toNat_of_nonneg (by omega), Int.emod_emod_of_dvd t hd]
  have e3 : ((2 ^ 64 : Nat) : Int) = 18446744073709551616 := by decide
  rw [e3, e2]
  have := Int.emod_lt_of_pos t (by omega : 0 < ((2 ^ s : Nat) : Int))
  have := Int.emod_nonneg t (by omega : ((2 ^ s : Nat) : Int) ≠ 0)
  generalize t % ((2 ^ s : Nat) : Int) = x at *
  generalize 2 ^ s = p at *
  have e4 : IntKind.i64.wrap x = wrap64 x := by simp [IntKind.wrap, IntKind.bits, IntKind.signed, wrap64] <;> omega
  rw [e4]
  exact wrap_id (by omega) (by omega)
theorem nest_div (t a b : Int) (ha : 1 ≤ a) (hb : 1 ≤ b) : (fdiv (fdiv t a) b == fdiv t (a * b)) = true := by
  have : 1 ≤ a * b := by have := Int.mul_le_mul ha hb (by omega) (by omega); omega
  unfold fdiv
  rw [if_neg (by omega), if_neg (by omega), if_neg (by omega), Int.ediv_ediv_of_nonneg (by omega)]
  simp
theorem nest_mod (t a b : Int) (ha : 1 ≤ a) (hb : 1 ≤ b) : (fmod (fmod t (a * b)) a == fmod t a) = true := by
  have : 1 ≤ a * b := by have := Int.mul_le_mul ha hb (by omega) (by omega); omega
  unfold fmod
  rw [if_neg (by omega), if_neg (by omega), if_neg (by omega), Int.emod_emod_of_dvd t (Int.dvd_mul_right a b)]
  simp
theorem nest_mul (a b : Int) (ha : 1 ≤ a ∧ a ≤ 2147483648) (hb : 1 ≤ b ∧ b ≤ 2147483648) : 1 ≤ a * b ∧ a * b ≤ 4611686018427387904 := by
  have h1 := Int.mul_le_mul ha.1 hb.1 (by omega) (by omega)
  have h2 := Int.mul_le_mul ha.2 hb.2 (by omega) (by omega)
  omega
theorem rise_back (t r : Int) (hr : ¬ r < 1) (ht : -9223372036854775808 ≤ t ∧ t ≤ 9223372036854775807) : wrap64 (wrap64 (fdiv t r * r) + fmod t r) = t := by
  have e : fdiv t r * r + fmod t r = t := by
    unfold fdiv fmod
    rw [if_neg hr, if_neg hr, Int.mul_comm]
    exact Int.mul_ediv_add_emod t r
  generalize fdiv t r * r = x at e
  generalize fmod t r = y at e
  unfold wrap64
  omega
theorem rise_mod (t r : Int) (hr : ¬ r < 1) : 0 ≤ fmod t r ∧ fmod t r < r := by
  unfold fmod
  rw [if_neg hr]
  exact ⟨Int.emod_nonneg t (by omega), Int.emod_lt_of_pos t (by omega)⟩
theorem rise_le (t u r : Int) (h : t ≤ u) : fdiv t r ≤ fdiv u r := by
  unfold fdiv
  split
  · omega
  · exact Int.ediv_le_ediv (by omega) h
set_option maxHeartbeats 4000000 in
theorem walkDivides (t r : Int) (ht : -9223372036854775808 ≤ t ∧ t ≤ 9223372036854775807) (hr : -9223372036854775808 ≤ r ∧ r ≤ 9223372036854775807) (w : World) :
    Calls Try.prog 6 #[.int .i64 t, .int .i64 r] w fun e w' => e = .returned (.bool true) ∧ Below w.heap.size w w' := by
  refine calls_flow Try.func6 rfl 34 rfl (Nat.le_of_ble_eq_true rfl) [(0, .int .i64 t), (1, .int .i64 r)] ?_ ?_
  · intro t v h; exact args_look rfl t v h
  refine w_seq ?_
  refine w_region ?_
  refine rw_val (v := .bool false) (w' := w) rfl rfl rfl rfl rfl ?_
  refine rw_end ?_
  refine w_seq ?_
  refine w_seq ?_
  refine w_region ?_
  refine rw_call rfl rfl rfl rfl (f := 13) (args := #[]) (by simp [go_sem, sEv, sLook, nbeq, i64_w]) (alive_calls w) ?_
  rintro e_ w1 ⟨rfl, hb2⟩
  refine ⟨_, rfl, ?_⟩
  have hs_w1 := hb2.size
  refine rw_val (v := .bool false) (w' := w1) rfl rfl rfl rfl (by simp [go_sem, sEv, sLook, nbeq, i64_w]) ?_
  refine rw_end ?_
  refine w_cond_f rfl rfl rfl ?_
  refine w_skip ?_
  refine w_seq ?_
  refine w_region ?_
  refine rw_val (v := .int .i64 t) (w' := w1) rfl rfl rfl rfl rfl ?_
  refine rw_val (v := .int .i64 r) (w' := w1) rfl rfl rfl rfl rfl ?_
  refine rw_call rfl rfl rfl rfl (f := 17) (args := #[.int .i64 t, .int .i64 r]) (by simp [go_sem, sEv, sLook, nbeq, i64_w]) (div_calls t r (by first | omega | exact ⟨by omega, by omega⟩ | assumption) (by first | omega | exact ⟨by omega, by omega⟩ | assumption) w1) ?_
  rintro e_ w3 ⟨rfl, hb4⟩
  refine ⟨_, rfl, ?_⟩
  have hs_w3 := hb4.size
  refine rw_val (v := .int .i64 (fdiv t r)) (w' := w3) rfl rfl rfl rfl rfl ?_
  refine rw_end ?_
  refine w_weaken (G' := [(0, .int .i64 t), (1, .int .i64 r), (4, .bool false), (5, .int .i64 (fdiv t r))]) ⟨rfl, rfl, rfl, rfl, trivial⟩ ?_
  refine w_seq ?_
  refine w_region ?_
  refine rw_val (v := .int .i64 (fdiv t r)) (w' := w3) rfl rfl rfl rfl rfl ?_
  refine rw_val (v := .int .i64 t) (w' := w3) rfl rfl rfl rfl rfl ?_
  refine rw_val (v := .int .i64 r) (w' := w3) rfl rfl rfl rfl rfl ?_
  refine rw_call rfl rfl rfl rfl (f := 19) (args := #[.int .i64 t, .int .i64 r]) (by simp [go_sem, sEv, sLook, nbeq, i64_w]) (rdiv_calls t r (by first | omega | exact ⟨by omega, by omega⟩ | assumption) (by first | omega | exact ⟨by omega, by omega⟩ | assumption) w3) ?_
  rintro e_ w5 ⟨rfl, hb6⟩
  refine ⟨_, rfl, ?_⟩
  have hs_w5 := hb6.size
  refine rw_val (v := .bool true) (w' := w5) rfl rfl rfl rfl (by simp [go_sem, sEv, sLook, nbeq, i64_w]) ?_
  refine rw_val (v := .bool true) (w' := w5) rfl rfl rfl rfl rfl ?_
  refine rw_gval (c := true) (v := .int .i64 t) (w' := w5) rfl rfl rfl rfl rfl rfl rfl (by rfl) ?_
  refine rw_gval (c := true) (v := .int .i64 r) (w' := w5) rfl rfl rfl rfl rfl rfl rfl (by rfl) ?_
  refine rw_gcall (c := true) rfl rfl rfl rfl rfl rfl rfl (f := 18) (args := #[.int .i64 t, .int .i64 r]) (by simp [go_sem, sEv, sLook, nbeq, i64_w]) (mod_calls t r (by first | omega | exact ⟨by omega, by omega⟩ | assumption) (by first | omega | exact ⟨by omega, by omega⟩ | assumption) w5) ?_
  rintro e_ w7 ⟨rfl, hb8⟩
  refine ⟨_, rfl, ?_⟩
  have hs_w7 := hb8.size
  refine rw_gval (c := true) (v := .int .i64 t) (w' := w7) rfl rfl rfl rfl rfl rfl rfl (by rfl) ?_
  refine rw_gval (c := true) (v := .int .i64 r) (w' := w7) rfl rfl rfl rfl rfl rfl rfl (by rfl) ?_
  refine rw_gcall (c := true) rfl rfl rfl rfl rfl rfl rfl (f := 20) (args := #[.int .i64 t, .int .i64 r]) (by simp [go_sem, sEv, sLook, nbeq, i64_w]) (rmod_calls t r (by first | omega | exact ⟨by omega, by omega⟩ | assumption) (by first | omega | exact ⟨by omega, by omega⟩ | assumption) w7) ?_
  rintro e_ w9 ⟨rfl, hb10⟩
  refine ⟨_, rfl, ?_⟩
  have hs_w9 := hb10.size
  refine rw_gval (c := true) (v := .bool true) (w' := w9) rfl rfl rfl rfl rfl rfl rfl (by simp [go_sem, sEv, sLook, nbeq, i64_w]) ?_
  refine rw_val (v := .bool true) (w' := w9) rfl rfl rfl rfl (by simp [go_sem, sEv, sLook, nbeq, i64_w]) ?_
  refine rw_val (v := .bool true) (w' := w9) rfl rfl rfl rfl rfl ?_
  refine rw_gval (c := true) (v := .int .i64 t) (w' := w9) rfl rfl rfl rfl rfl rfl rfl (by rfl) ?_
  refine rw_gval (c := true) (v := .int .i64 (fdiv t r)) (w' := w9) rfl rfl rfl rfl rfl rfl rfl (by rfl) ?_
  refine rw_gval (c := true) (v := .int .i64 r) (w' := w9) rfl rfl rfl rfl rfl rfl rfl (by rfl) ?_
  refine rw_gcall (c := true) rfl rfl rfl rfl rfl rfl rfl (f := 21) (args := #[.int .i64 t, .int .i64 (fdiv t r), .int .i64 r]) (by simp [go_sem, sEv, sLook, nbeq, i64_w]) (in_calls t (fdiv t r) r (by first | omega | exact ⟨by omega, by omega⟩ | assumption) (by first | omega | exact ⟨by omega, by omega⟩ | assumption) w9) ?_
  rintro e_ w11 ⟨rfl, hb12⟩
  refine ⟨_, rfl, ?_⟩
  have hs_w11 := hb12.size
  refine rw_gval (c := true) (v := .int .i64 r) (w' := w11) rfl rfl rfl rfl rfl rfl rfl (by rfl) ?_
  refine rw_gval (c := true) (v := .bool (decide (1 ≤ r))) (w' := w11) rfl rfl rfl rfl rfl rfl rfl (by simp [go_sem, sEv, sLook, nbeq, i64_w]) ?_
  refine rw_gval (c := true) (v := .bool ((decide (1 ≤ r) && (fdiv t r == (fdiv t r))) == (decide (1 ≤ r)))) (w' := w11) rfl rfl rfl rfl rfl rfl rfl (by first | (simp [go_sem, sEv, sLook, nbeq, i64_w]; done) | (simp [go_sem, sEv, sLook, nbeq, i64_w] <;> cases h0_ : (decide (1 ≤ r) && (fdiv t r == (fdiv t r))) <;> cases h1_ : decide (1 ≤ r) <;> rfl)) ?_
  refine rw_val (v := .bool ((decide (1 ≤ r) && (fdiv t r == (fdiv t r))) == (decide (1 ≤ r)))) (w' := w11) rfl rfl rfl rfl (by simp [go_sem, sEv, sLook, nbeq, i64_w]) ?_
  refine rw_val (v := .bool ((decide (1 ≤ r) && (fdiv t r == (fdiv t r))) == (decide (1 ≤ r)))) (w' := w11) rfl rfl rfl rfl rfl ?_
  refine rw_end ?_
  refine w_weaken (G' := [(4, .bool ((decide (1 ≤ r) && (fdiv t r == (fdiv t r))) == (decide (1 ≤ r))))]) ⟨rfl, trivial⟩ ?_
  have hq13 : ((decide (1 ≤ r) && (fdiv t r == (fdiv t r))) == (decide (1 ≤ r))) = true := by simp
  refine w_ret (post_ret1 rfl rfl ?_)
  exact ⟨by simp only [hq13], (chain (chain (chain (chain (chain hb2 hb4) hb6) hb8) hb10) hb12)⟩
set_option maxHeartbeats 4000000 in
theorem walkShifts0 (t k p : Int) (s : Nat) (ht : -9223372036854775808 ≤ t ∧ t ≤ 9223372036854775807) (hk : -9223372036854775808 ≤ k ∧ k ≤ 9223372036854775807) (hs : s < 63) (hmod : Int.tmod (IntKind.u64.wrap k) 63 = (s : Int)) (hp : 0 < p ∧ p ≤ 4611686018427387904) (hpp : (2 : Int) ^ s = p) (hfd : (fdiv t p == t / p) = true) (hfm : (fmod t p == t % p) = true) (hand : bits .and .i64 t (p - 1) = t % p) (w : World) :
    Calls Try.prog 4 #[.int .i64 t, .int .i64 k] w fun e w' => e = .returned (.bool true) ∧ Below w.heap.size w w' := by
  refine calls_flow Try.func4 rfl 31 rfl (Nat.le_of_ble_eq_true rfl) [(0, .int .i64 t), (1, .int .i64 k)] ?_ ?_
  · intro t v h; exact args_look rfl t v h
  refine w_seq ?_
  refine w_region ?_
  refine rw_val (v := .bool false) (w' := w) rfl rfl rfl rfl rfl ?_
  refine rw_end ?_
  refine w_seq ?_
  refine w_seq ?_
  refine w_region ?_
  refine rw_call rfl rfl rfl rfl (f := 13) (args := #[]) (by simp [go_sem, sEv, sLook, nbeq, i64_w]) (alive_calls w) ?_
  rintro e_ w1 ⟨rfl, hb2⟩
  refine ⟨_, rfl, ?_⟩
  have hs_w1 := hb2.size
  refine rw_val (v := .bool false) (w' := w1) rfl rfl rfl rfl (by simp [go_sem, sEv, sLook, nbeq, i64_w]) ?_
  refine rw_end ?_
  refine w_cond_f rfl rfl rfl ?_
  refine w_skip ?_
  refine w_seq ?_
  refine w_region ?_
  refine rw_val (v := .int .i64 k) (w' := w1) rfl rfl rfl rfl rfl ?_
  refine rw_val (v := .int .u64 (IntKind.u64.wrap (k))) (w' := w1) rfl rfl rfl rfl (by simp [go_sem, sEv, sLook, nbeq, i64_w, Try.underlying3, Try.underlying22]) ?_
  refine rw_val (v := .int .u64 (s : Int)) (w' := w1) rfl rfl rfl rfl (by simp [go_sem, sEv, sLook, nbeq, i64_w]; exact hmod) ?_
  refine rw_val (v := .int .u64 (s : Int)) (w' := w1) rfl rfl rfl rfl rfl ?_
  refine rw_end ?_
  refine w_weaken (G' := [(0, .int .i64 t), (4, .bool false), (5, .int .u64 (s : Int))]) ⟨rfl, rfl, rfl, trivial⟩ ?_
  refine w_seq ?_
  refine w_region ?_
  refine rw_val (v := .int .u64 (s : Int)) (w' := w1) rfl rfl rfl rfl rfl ?_
  refine rw_val (v := .int .i64 p) (w' := w1) rfl rfl rfl rfl (by simp [go_sem, sEv, sLook, nbeq, i64_w]; rw [hpp]; exact wrap_id (by omega) (by omega)) ?_
  refine rw_val (v := .int .i64 p) (w' := w1) rfl rfl rfl rfl rfl ?_
  refine rw_end ?_
  refine w_seq ?_
  refine w_region ?_
  refine rw_val (v := .int .i64 t) (w' := w1) rfl rfl rfl rfl rfl ?_
  refine rw_val (v := .int .i64 p) (w' := w1) rfl rfl rfl rfl rfl ?_
  refine rw_call rfl rfl rfl rfl (f := 17) (args := #[.int .i64 t, .int .i64 p]) (by simp [go_sem, sEv, sLook, nbeq, i64_w]) (div_calls t p (by first | omega | exact ⟨by omega, by omega⟩ | assumption) (by first | omega | exact ⟨by omega, by omega⟩ | assumption) w1) ?_
  rintro e_ w3 ⟨rfl, hb4⟩
  refine ⟨_, rfl, ?_⟩
  have hs_w3 := hb4.size
  refine rw_val (v := .int .i64 t) (w' := w3) rfl rfl rfl rfl rfl ?_
  refine rw_val (v := .int .u64 (s : Int)) (w' := w3) rfl rfl rfl rfl rfl ?_
  refine rw_val (v := .int .i64 (t / p)) (w' := w3) rfl rfl rfl rfl (by simp [go_sem, sEv, sLook, nbeq, i64_w]; rw [hpp]) ?_
  refine rw_val (v := .bool ((fdiv t p) == (t / p))) (w' := w3) rfl rfl rfl rfl (by simp [go_sem, sEv, sLook, nbeq, i64_w]) ?_
  refine rw_val (v := .bool ((fdiv t p) == (t / p))) (w' := w3) rfl rfl rfl rfl rfl ?_
  have hq5 : ((fdiv t p) == (t / p)) = true := by exact hfd
  refine rw_gval (c := ((fdiv t p) == (t / p))) (v := .int .i64 t) (w' := w3) rfl rfl rfl (by simp [hq5]) rfl rfl rfl (by rfl) ?_
  refine rw_gval (c := ((fdiv t p) == (t / p))) (v := .int .i64 p) (w' := w3) rfl rfl rfl (by simp [hq5]) rfl rfl rfl (by rfl) ?_
  refine rw_gcall (c := ((fdiv t p) == (t / p))) rfl rfl rfl (by simp [hq5]) rfl rfl rfl (f := 18) (args := #[.int .i64 t, .int .i64 p]) (by simp [go_sem, sEv, sLook, nbeq, i64_w]) (mod_calls t p (by first | omega | exact ⟨by omega, by omega⟩ | assumption) (by first | omega | exact ⟨by omega, by omega⟩ | assumption) w3) ?_
  rintro e_ w6 ⟨rfl, hb7⟩
  refine ⟨_, rfl, ?_⟩
  have hs_w6 := hb7.size
  refine rw_gval (c := ((fdiv t p) == (t / p))) (v := .int .i64 t) (w' := w6) rfl rfl rfl (by simp [hq5]) rfl rfl rfl (by rfl) ?_
  refine rw_gval (c := ((fdiv t p) == (t / p))) (v := .int .i64 p) (w' := w6) rfl rfl rfl (by simp [hq5]) rfl rfl rfl (by rfl) ?_
  refine rw_gval (c := ((fdiv t p) == (t / p))) (v := .int .i64 (p - 1)) (w' := w6) rfl rfl rfl (by simp [hq5]) rfl rfl rfl (by simp [go_sem, sEv, sLook, nbeq, i64_w]; exact wrap_id (by omega) (by omega)) ?_
  refine rw_gval (c := ((fdiv t p) == (t / p))) (v := .int .i64 (t % p)) (w' := w6) rfl rfl rfl (by simp [hq5]) rfl rfl rfl (by simp [go_sem, sEv, sLook, nbeq, i64_w]; exact hand) ?_
  refine rw_gval (c := ((fdiv t p) == (t / p))) (v := .bool ((fmod t p) == (t % p))) (w' := w6) rfl rfl rfl (by simp [hq5]) rfl rfl rfl (by simp [go_sem, sEv, sLook, nbeq, i64_w]) ?_
  refine rw_val (v := .bool ((fmod t p) == (t % p))) (w' := w6) rfl rfl rfl rfl (by simp [go_sem, sEv, sLook, nbeq, i64_w, hq5]) ?_
  refine rw_val (v := .bool ((fmod t p) == (t % p))) (w' := w6) rfl rfl rfl rfl rfl ?_
  refine rw_end ?_
  refine w_weaken (G' := [(4, .bool ((fmod t p) == (t % p)))]) ⟨rfl, trivial⟩ ?_
  have hq8 : ((fmod t p) == (t % p)) = true := by exact hfm
  refine w_ret (post_ret1 rfl rfl ?_)
  exact ⟨by simp only [hq8], (chain (chain hb2 hb4) hb7)⟩
set_option maxHeartbeats 4000000 in
theorem walkNests (t a b : Int) (ht : -9223372036854775808 ≤ t ∧ t ≤ 9223372036854775807) (ha : -9223372036854775808 ≤ a ∧ a ≤ 9223372036854775807) (hb : -9223372036854775808 ≤ b ∧ b ≤ 9223372036854775807) (w : World) :
    Calls Try.prog 5 #[.int .i64 t, .int .i64 a, .int .i64 b] w fun e w' => e = .returned (.bool true) ∧ Below w.heap.size w w' := by
  refine calls_flow Try.func5 rfl 47 rfl (Nat.le_of_ble_eq_true rfl) [(0, .int .i64 t), (1, .int .i64 a), (2, .int .i64 b)] ?_ ?_
  · intro t v h; exact args_look rfl t v h
  refine w_seq ?_
  refine w_region ?_
  refine rw_val (v := .bool false) (w' := w) rfl rfl rfl rfl rfl ?_
  refine rw_end ?_
  refine w_seq ?_
  refine w_seq ?_
  refine w_region ?_
  refine rw_call rfl rfl rfl rfl (f := 13) (args := #[]) (by simp [go_sem, sEv, sLook, nbeq, i64_w]) (alive_calls w) ?_
  rintro e_ w1 ⟨rfl, hb2⟩
  refine ⟨_, rfl, ?_⟩
  have hs_w1 := hb2.size
  refine rw_val (v := .bool false) (w' := w1) rfl rfl rfl rfl (by simp [go_sem, sEv, sLook, nbeq, i64_w]) ?_
  refine rw_end ?_
  refine w_cond_f rfl rfl rfl ?_
  refine w_skip ?_
  refine w_seq ?_
  refine w_seq ?_
  refine w_region ?_
  refine rw_val (v := .int .i64 a) (w' := w1) rfl rfl rfl rfl rfl ?_
  refine rw_val (v := .bool (decide (a < 1))) (w' := w1) rfl rfl rfl rfl (by simp [go_sem, sEv, sLook, nbeq, i64_w]) ?_
  refine rw_val (v := .bool (decide (a < 1))) (w' := w1) rfl rfl rfl rfl rfl ?_
  rcases bcase (decide (a < 1)) with cA | cA
  · refine rw_gval (c := decide (a < 1)) (v := .int .i64 b) (w' := w1) rfl rfl rfl (by simp [cA]) rfl rfl rfl (by rfl) ?_
    refine rw_gval (c := decide (a < 1)) (v := .bool (decide (b < 1))) (w' := w1) rfl rfl rfl (by simp [cA]) rfl rfl rfl (by simp [go_sem, sEv, sLook, nbeq, i64_w]) ?_
    refine rw_val (v := .bool (decide (b < 1))) (w' := w1) rfl rfl rfl rfl (by simp [go_sem, sEv, sLook, nbeq, i64_w, cA]) ?_
    refine rw_val (v := .bool (decide (b < 1))) (w' := w1) rfl rfl rfl rfl rfl ?_
    rcases bcase (decide (b < 1)) with cB | cB
    · refine rw_gval (c := decide (b < 1)) (v := .int .i64 a) (w' := w1) rfl rfl rfl (by simp [cB]) rfl rfl rfl (by rfl) ?_
      refine rw_gval (c := decide (b < 1)) (v := .bool (decide (2147483648 < a))) (w' := w1) rfl rfl rfl (by simp [cB]) rfl rfl rfl (by simp [go_sem, sEv, sLook, nbeq, i64_w]) ?_
      refine rw_val (v := .bool (decide (2147483648 < a))) (w' := w1) rfl rfl rfl rfl (by simp [go_sem, sEv, sLook, nbeq, i64_w, cB]) ?_
      refine rw_val (v := .bool (decide (2147483648 < a))) (w' := w1) rfl rfl rfl rfl rfl ?_
      rcases bcase (decide (2147483648 < a)) with cC | cC
      · refine rw_gval (c := decide (2147483648 < a)) (v := .int .i64 b) (w' := w1) rfl rfl rfl (by simp [cC]) rfl rfl rfl (by rfl) ?_
        refine rw_gval (c := decide (2147483648 < a)) (v := .bool (decide (2147483648 < b))) (w' := w1) rfl rfl rfl (by simp [cC]) rfl rfl rfl (by simp [go_sem, sEv, sLook, nbeq, i64_w]) ?_
        refine rw_val (v := .bool (decide (2147483648 < b))) (w' := w1) rfl rfl rfl rfl (by simp [go_sem, sEv, sLook, nbeq, i64_w, cC]) ?_
        refine rw_end ?_
        refine w_weaken (G' := [(0, .int .i64 t), (1, .int .i64 a), (2, .int .i64 b), (6, .bool false), (22, .bool (decide (2147483648 < b)))]) ⟨rfl, rfl, rfl, rfl, rfl, trivial⟩ ?_
        refine w_cond rfl rfl (fun cD => ?_) (fun cD => ?_)
        · refine w_seq ?_
          refine w_region ?_
          refine rw_val (v := .bool true) (w' := w1) rfl rfl rfl rfl rfl ?_
          refine rw_end ?_
          refine w_ret (post_ret1 rfl rfl ?_)
          exact ⟨rfl, hb2⟩
        · refine w_skip ?_
          refine w_seq ?_
          refine w_region ?_
          refine rw_val (v := .int .i64 t) (w' := w1) rfl rfl rfl rfl rfl ?_
          refine rw_val (v := .int .i64 a) (w' := w1) rfl rfl rfl rfl rfl ?_
          refine rw_call rfl rfl rfl rfl (f := 17) (args := #[.int .i64 t, .int .i64 a]) (by simp [go_sem, sEv, sLook, nbeq, i64_w]) (div_calls t a (by first | omega | exact ⟨by omega, by omega⟩ | assumption) (by first | omega | exact ⟨by omega, by omega⟩ | assumption) w1) ?_
          rintro e_ w3 ⟨rfl, hb4⟩
          refine ⟨_, rfl, ?_⟩
          have hs_w3 := hb4.size
          refine rw_val (v := .int .i64 b) (w' := w3) rfl rfl rfl rfl rfl ?_
          refine rw_call rfl rfl rfl rfl (f := 17) (args := #[.int .i64 (fdiv t a), .int .i64 b]) (by simp [go_sem, sEv, sLook, nbeq, i64_w]) (div_calls (fdiv t a) b (fdiv_range t a ht) (by first | omega | exact ⟨by omega, by omega⟩ | assumption) w3) ?_
          rintro e_ w5 ⟨rfl, hb6⟩
          refine ⟨_, rfl, ?_⟩
          have hs_w5 := hb6.size
          refine rw_val (v := .int .i64 t) (w' := w5) rfl rfl rfl rfl rfl ?_
          refine rw_val (v := .int .i64 a) (w' := w5) rfl rfl rfl rfl rfl ?_
          refine rw_val (v := .int .i64 b) (w' := w5) rfl rfl rfl rfl rfl ?_
          refine rw_val (v := .int .i64 (a * b)) (w' := w5) rfl rfl rfl rfl (by simp [go_sem, sEv, sLook, nbeq, i64_w]; have := nest_mul a b (by have := of_decide_eq_false cA; have := of_decide_eq_false cC; omega) (by have := of_decide_eq_false cB; have := of_decide_eq_false cD; omega); exact wrap_id (by omega) (by omega)) ?_
          refine rw_call rfl rfl rfl rfl (f := 17) (args := #[.int .i64 t, .int .i64 (a * b)]) (by simp [go_sem, sEv, sLook, nbeq, i64_w]) (div_calls t (a * b) (by first | omega | exact ⟨by omega, by omega⟩ | assumption) (by have := nest_mul a b (by have := of_decide_eq_false cA; have := of_decide_eq_false cC; omega) (by have := of_decide_eq_false cB; have := of_decide_eq_false cD; omega); omega) w5) ?_
          rintro e_ w7 ⟨rfl, hb8⟩
          refine ⟨_, rfl, ?_⟩
          have hs_w7 := hb8.size
          refine rw_val (v := .bool ((fdiv (fdiv t a) b) == (fdiv t (a * b)))) (w' := w7) rfl rfl rfl rfl (by simp [go_sem, sEv, sLook, nbeq, i64_w]) ?_
          refine rw_val (v := .bool ((fdiv (fdiv t a) b) == (fdiv t (a * b)))) (w' := w7) rfl rfl rfl rfl rfl ?_
          have hq9 : ((fdiv (fdiv t a) b) == (fdiv t (a * b))) = true := by exact nest_div t a b (by have := of_decide_eq_false cA; omega) (by have := of_decide_eq_false cB; omega)
          refine rw_gval (c := ((fdiv (fdiv t a) b) == (fdiv t (a * b)))) (v := .int .i64 t) (w' := w7) rfl rfl rfl (by simp [hq9]) rfl rfl rfl (by rfl) ?_
          refine rw_gval (c := ((fdiv (fdiv t a) b) == (fdiv t (a * b)))) (v := .int .i64 a) (w' := w7) rfl rfl rfl (by simp [hq9]) rfl rfl rfl (by rfl) ?_
          refine rw_gval (c := ((fdiv (fdiv t a) b) == (fdiv t (a * b)))) (v := .int .i64 b) (w' := w7) rfl rfl rfl (by simp [hq9]) rfl rfl rfl (by rfl) ?_
          refine rw_gval (c := ((fdiv (fdiv t a) b) == (fdiv t (a * b)))) (v := .int .i64 (a * b)) (w' := w7) rfl rfl rfl (by simp [hq9]) rfl rfl rfl (by simp [go_sem, sEv, sLook, nbeq, i64_w]; have := nest_mul a b (by have := of_decide_eq_false cA; have := of_decide_eq_false cC; omega) (by have := of_decide_eq_false cB; have := of_decide_eq_false cD; omega); exact wrap_id (by omega) (by omega)) ?_
          refine rw_gcall (c := ((fdiv (fdiv t a) b) == (fdiv t (a * b)))) rfl rfl rfl (by simp [hq9]) rfl rfl rfl (f := 18) (args := #[.int .i64 t, .int .i64 (a * b)]) (by simp [go_sem, sEv, sLook, nbeq, i64_w]) (mod_calls t (a * b) (by first | omega | exact ⟨by omega, by omega⟩ | assumption) (by have := nest_mul a b (by have := of_decide_eq_false cA; have := of_decide_eq_false cC; omega) (by have := of_decide_eq_false cB; have := of_decide_eq_false cD; omega); omega) w7) ?_
          rintro e_ w10 ⟨rfl, hb11⟩
          refine ⟨_, rfl, ?_⟩
          have hs_w10 := hb11.size
          refine rw_gval (c := ((fdiv (fdiv t a) b) == (fdiv t (a * b)))) (v := .int .i64 a) (w' := w10) rfl rfl rfl (by simp [hq9]) rfl rfl rfl (by rfl) ?_
          refine rw_gcall (c := ((fdiv (fdiv t a) b) == (fdiv t (a * b)))) rfl rfl rfl (by simp [hq9]) rfl rfl rfl (f := 18) (args := #[.int .i64 (fmod t (a * b)), .int .i64 a]) (by simp [go_sem, sEv, sLook, nbeq, i64_w]) (mod_calls (fmod t (a * b)) a (fmod_range t (a * b) (by have := nest_mul a b (by have := of_decide_eq_false cA; have := of_decide_eq_false cC; omega) (by have := of_decide_eq_false cB; have := of_decide_eq_false cD; omega); omega)) (by first | omega | exact ⟨by omega, by omega⟩ | assumption) w10) ?_
          rintro e_ w12 ⟨rfl, hb13⟩
          refine ⟨_, rfl, ?_⟩
          have hs_w12 := hb13.size
          refine rw_gval (c := ((fdiv (fdiv t a) b) == (fdiv t (a * b)))) (v := .int .i64 t) (w' := w12) rfl rfl rfl (by simp [hq9]) rfl rfl rfl (by rfl) ?_
          refine rw_gval (c := ((fdiv (fdiv t a) b) == (fdiv t (a * b)))) (v := .int .i64 a) (w' := w12) rfl rfl rfl (by simp [hq9]) rfl rfl rfl (by rfl) ?_
          refine rw_gcall (c := ((fdiv (fdiv t a) b) == (fdiv t (a * b)))) rfl rfl rfl (by simp [hq9]) rfl rfl rfl (f := 18) (args := #[.int .i64 t, .int .i64 a]) (by simp [go_sem, sEv, sLook, nbeq, i64_w]) (mod_calls t a (by first | omega | exact ⟨by omega, by omega⟩ | assumption) (by first | omega | exact ⟨by omega, by omega⟩ | assumption) w12) ?_
          rintro e_ w14 ⟨rfl, hb15⟩
          refine ⟨_, rfl, ?_⟩
          have hs_w14 := hb15.size
          refine rw_gval (c := ((fdiv (fdiv t a) b) == (fdiv t (a * b)))) (v := .bool ((fmod (fmod t (a * b)) a) == (fmod t a))) (w' := w14) rfl rfl rfl (by simp [hq9]) rfl rfl rfl (by simp [go_sem, sEv, sLook, nbeq, i64_w]) ?_
          refine rw_val (v := .bool ((fmod (fmod t (a * b)) a) == (fmod t a))) (w' := w14) rfl rfl rfl rfl (by simp [go_sem, sEv, sLook, nbeq, i64_w, hq9]) ?_
          refine rw_val (v := .bool ((fmod (fmod t (a * b)) a) == (fmod t a))) (w' := w14) rfl rfl rfl rfl rfl ?_
          refine rw_end ?_
          refine w_weaken (G' := [(6, .bool ((fmod (fmod t (a * b)) a) == (fmod t a)))]) ⟨rfl, trivial⟩ ?_
          have hq16 : ((fmod (fmod t (a * b)) a) == (fmod t a)) = true := by exact nest_mod t a b (by have := of_decide_eq_false cA; omega) (by have := of_decide_eq_false cB; omega)
          refine w_ret (post_ret1 rfl rfl ?_)
          exact ⟨by simp only [hq16], (chain (chain (chain (chain (chain (chain hb2 hb4) hb6) hb8) hb11) hb13) hb15)⟩
      · refine rw_off (c := decide (2147483648 < a)) rfl rfl rfl (by simp [cC]) rfl rfl ?_
        refine rw_off (c := decide (2147483648 < a)) rfl rfl rfl (by simp [cC]) rfl rfl ?_
        refine rw_val (v := .bool true) (w' := w1) rfl rfl rfl rfl (by simp [go_sem, sEv, sLook, nbeq, i64_w, cC]) ?_
        refine rw_end ?_
        refine w_weaken (G' := [(0, .int .i64 t), (1, .int .i64 a), (2, .int .i64 b), (6, .bool false), (22, .bool true)]) ⟨rfl, rfl, rfl, rfl, rfl, trivial⟩ ?_
        refine w_cond_t rfl rfl rfl ?_
        refine w_seq ?_
        refine w_region ?_
        refine rw_val (v := .bool true) (w' := w1) rfl rfl rfl rfl rfl ?_
        refine rw_end ?_
        refine w_ret (post_ret1 rfl rfl ?_)
        exact ⟨rfl, hb2⟩
    · refine rw_off (c := decide (b < 1)) rfl rfl rfl (by simp [cB]) rfl rfl ?_
      refine rw_off (c := decide (b < 1)) rfl rfl rfl (by simp [cB]) rfl rfl ?_
      refine rw_val (v := .bool true) (w' := w1) rfl rfl rfl rfl (by simp [go_sem, sEv, sLook, nbeq, i64_w, cB]) ?_
      refine rw_val (v := .bool true) (w' := w1) rfl rfl rfl rfl rfl ?_
      refine rw_off (c := true) rfl rfl rfl rfl rfl rfl ?_
      refine rw_off (c := true) rfl rfl rfl rfl rfl rfl ?_
      refine rw_val (v := .bool true) (w' := w1) rfl rfl rfl rfl (by simp [go_sem, sEv, sLook, nbeq, i64_w]) ?_
      refine rw_end ?_
      refine w_weaken (G' := [(0, .int .i64 t), (1, .int .i64 a), (2, .int .i64 b), (6, .bool false), (22, .bool true)]) ⟨rfl, rfl, rfl, rfl, rfl, trivial⟩ ?_
      refine w_cond_t rfl rfl rfl ?_
      refine w_seq ?_
      refine w_region ?_
      refine rw_val (v := .bool true) (w' := w1) rfl rfl rfl rfl rfl ?_
      refine rw_end ?_
      refine w_ret (post_ret1 rfl rfl ?_)
      exact ⟨rfl, hb2⟩
  · refine rw_off (c := decide (a < 1)) rfl rfl rfl (by simp [cA]) rfl rfl ?_
    refine rw_off (c := decide (a < 1)) rfl rfl rfl (by simp [cA]) rfl rfl ?_
    refine rw_val (v := .bool true) (w' := w1) rfl rfl rfl rfl (by simp [go_sem, sEv, sLook, nbeq, i64_w, cA]) ?_
    refine rw_val (v := .bool true) (w' := w1) rfl rfl rfl rfl rfl ?_
    refine rw_off (c := true) rfl rfl rfl rfl rfl rfl ?_
    refine rw_off (c := true) rfl rfl rfl rfl rfl rfl ?_
    refine rw_val (v := .bool true) (w' := w1) rfl rfl rfl rfl (by simp [go_sem, sEv, sLook, nbeq, i64_w]) ?_
    refine rw_val (v := .bool true) (w' := w1) rfl rfl rfl rfl rfl ?_
    refine rw_off (c := true) rfl rfl rfl rfl rfl rfl ?_
    refine rw_off (c := true) rfl rfl rfl rfl rfl rfl ?_
    refine rw_val (v := .bool true) (w' := w1) rfl rfl rfl rfl (by simp [go_sem, sEv, sLook, nbeq, i64_w]) ?_
    refine rw_end ?_
    refine w_weaken (G' := [(0, .int .i64 t), (1, .int .i64 a), (2, .int .i64 b), (6, .bool false), (22, .bool true)]) ⟨rfl, rfl, rfl, rfl, rfl, trivial⟩ ?_
    refine w_cond_t rfl rfl rfl ?_
    refine w_seq ?_
    refine w_region ?_
    refine rw_val (v := .bool true) (w' := w1) rfl rfl rfl rfl rfl ?_
    refine rw_end ?_
    refine w_ret (post_ret1 rfl rfl ?_)
    exact ⟨rfl, hb2⟩
set_option maxHeartbeats 4000000 in
theorem risesCalls (t u r k : Int) (ht : -9223372036854775808 ≤ t ∧ t ≤ 9223372036854775807) (hu : -9223372036854775808 ≤ u ∧ u ≤ 9223372036854775807) (hr : -9223372036854775808 ≤ r ∧ r ≤ 9223372036854775807) (w : World) :
    Calls Try.prog 22 #[.int .i64 t, .int .i64 u, .int .i64 r, .int .i64 k] w fun e w' => e = .returned (.bool true) ∧ Below w.heap.size w w' := by
  refine calls_flow Try.func22 rfl 77 rfl (Nat.le_of_ble_eq_true rfl) [(0, .int .i64 t), (1, .int .i64 u), (2, .int .i64 r), (3, .int .i64 k)] ?_ ?_
  · intro t v h; exact args_look rfl t v h
  refine w_seq ?_
  refine w_region ?_
  refine rw_val (v := .bool false) (w' := w) rfl rfl rfl rfl rfl ?_
  refine rw_end ?_
  refine w_seq ?_
  refine w_seq ?_
  refine w_region ?_
  refine rw_call rfl rfl rfl rfl (f := 13) (args := #[]) (by simp [go_sem, sEv, sLook, nbeq, i64_w]) (alive_calls w) ?_
  rintro e_ w1 ⟨rfl, hb2⟩
  refine ⟨_, rfl, ?_⟩
  have hs_w1 := hb2.size
  refine rw_val (v := .bool false) (w' := w1) rfl rfl rfl rfl (by simp [go_sem, sEv, sLook, nbeq, i64_w]) ?_
  refine rw_end ?_
  refine w_cond_f rfl rfl rfl ?_
  refine w_skip ?_
  refine w_seq ?_
  refine w_seq ?_
  refine w_region ?_
  refine rw_val (v := .int .i64 r) (w' := w1) rfl rfl rfl rfl rfl ?_
  refine rw_val (v := .bool (decide (r < 1))) (w' := w1) rfl rfl rfl rfl (by simp [go_sem, sEv, sLook, nbeq, i64_w]) ?_
  refine rw_end ?_
  refine w_cond rfl rfl (fun cR => ?_) (fun cR => ?_)
  · refine w_seq ?_
    refine w_region ?_
    refine rw_val (v := .int .i64 t) (w' := w1) rfl rfl rfl rfl rfl ?_
    refine rw_val (v := .int .i64 k) (w' := w1) rfl rfl rfl rfl rfl ?_
    refine rw_val (v := .int .i64 r) (w' := w1) rfl rfl rfl rfl rfl ?_
    refine rw_call rfl rfl rfl rfl (f := 21) (args := #[.int .i64 t, .int .i64 k, .int .i64 r]) (by simp [go_sem, sEv, sLook, nbeq, i64_w]) (in_calls t k r (by first | omega | exact ⟨by omega, by omega⟩ | assumption) (by first | omega | exact ⟨by omega, by omega⟩ | assumption) w1) ?_
    rintro e_ w3 ⟨rfl, hb4⟩
    refine ⟨_, rfl, ?_⟩
    have hs_w3 := hb4.size
    refine rw_val (v := .bool (!(decide (1 ≤ r) && (fdiv t r == k)))) (w' := w3) rfl rfl rfl rfl (by simp [go_sem, sEv, sLook, nbeq, i64_w]) ?_
    refine rw_val (v := .bool (!(decide (1 ≤ r) && (fdiv t r == k)))) (w' := w3) rfl rfl rfl rfl rfl ?_
    have hq5 : (decide (1 ≤ r) && (fdiv t r == k)) = false := by have := of_decide_eq_true cR; rw [decide_eq_false (by omega)]; rfl
    have hq6 : (!(decide (1 ≤ r) && (fdiv t r == k))) = true := by simp [hq5]
    refine rw_gval (c := !(decide (1 ≤ r) && (fdiv t r == k))) (v := .int .i64 t) (w' := w3) rfl rfl rfl (by simp [hq6]) rfl rfl rfl (by rfl) ?_
    refine rw_gval (c := !(decide (1 ≤ r) && (fdiv t r == k))) (v := .int .i64 r) (w' := w3) rfl rfl rfl (by simp [hq6]) rfl rfl rfl (by rfl) ?_
    refine rw_gcall (c := !(decide (1 ≤ r) && (fdiv t r == k))) rfl rfl rfl (by simp [hq6]) rfl rfl rfl (f := 17) (args := #[.int .i64 t, .int .i64 r]) (by simp [go_sem, sEv, sLook, nbeq, i64_w]) (div_calls t r (by first | omega | exact ⟨by omega, by omega⟩ | assumption) (by first | omega | exact ⟨by omega, by omega⟩ | assumption) w3) ?_
    rintro e_ w7 ⟨rfl, hb8⟩
    refine ⟨_, rfl, ?_⟩
    have hs_w7 := hb8.size
    refine rw_gval (c := !(decide (1 ≤ r) && (fdiv t r == k))) (v := .bool ((fdiv t r) == 0)) (w' := w7) rfl rfl rfl (by simp [hq6]) rfl rfl rfl (by simp [go_sem, sEv, sLook, nbeq, i64_w]) ?_
    refine rw_val (v := .bool ((fdiv t r) == 0)) (w' := w7) rfl rfl rfl rfl (by simp [go_sem, sEv, sLook, nbeq, i64_w, hq6]) ?_
    refine rw_val (v := .bool ((fdiv t r) == 0)) (w' := w7) rfl rfl rfl rfl rfl ?_
    have hq9 : ((fdiv t r) == 0) = true := by have := of_decide_eq_true cR; simp [fdiv, this]
    refine rw_gval (c := ((fdiv t r) == 0)) (v := .int .i64 t) (w' := w7) rfl rfl rfl (by simp [hq9]) rfl rfl rfl (by rfl) ?_
    refine rw_gval (c := ((fdiv t r) == 0)) (v := .int .i64 r) (w' := w7) rfl rfl rfl (by simp [hq9]) rfl rfl rfl (by rfl) ?_
    refine rw_gcall (c := ((fdiv t r) == 0)) rfl rfl rfl (by simp [hq9]) rfl rfl rfl (f := 18) (args := #[.int .i64 t, .int .i64 r]) (by simp [go_sem, sEv, sLook, nbeq, i64_w]) (mod_calls t r (by first | omega | exact ⟨by omega, by omega⟩ | assumption) (by first | omega | exact ⟨by omega, by omega⟩ | assumption) w7) ?_
    rintro e_ w10 ⟨rfl, hb11⟩
    refine ⟨_, rfl, ?_⟩
    have hs_w10 := hb11.size
    refine rw_gval (c := ((fdiv t r) == 0)) (v := .bool ((fmod t r) == 0)) (w' := w10) rfl rfl rfl (by simp [hq9]) rfl rfl rfl (by simp [go_sem, sEv, sLook, nbeq, i64_w]) ?_
    refine rw_val (v := .bool ((fmod t r) == 0)) (w' := w10) rfl rfl rfl rfl (by simp [go_sem, sEv, sLook, nbeq, i64_w, hq9]) ?_
    refine rw_val (v := .bool ((fmod t r) == 0)) (w' := w10) rfl rfl rfl rfl rfl ?_
    refine rw_end ?_
    refine w_weaken (G' := [(0, .int .i64 t), (1, .int .i64 u), (2, .int .i64 r), (3, .int .i64 k), (8, .bool ((fmod t r) == 0))]) ⟨rfl, rfl, rfl, rfl, rfl, trivial⟩ ?_
    have hq12 : ((fmod t r) == 0) = true := by have := of_decide_eq_true cR; simp [fmod, this]
    refine w_ret (post_ret1 rfl rfl ?_)
    exact ⟨by simp only [hq12], (chain (chain (chain hb2 hb4) hb8) hb11)⟩
  · refine w_skip ?_
    refine w_seq ?_
    refine w_region ?_
    refine rw_val (v := .int .i64 t) (w' := w1) rfl rfl rfl rfl rfl ?_
    refine rw_val (v := .int .i64 r) (w' := w1) rfl rfl rfl rfl rfl ?_
    refine rw_call rfl rfl rfl rfl (f := 17) (args := #[.int .i64 t, .int .i64 r]) (by simp [go_sem, sEv, sLook, nbeq, i64_w]) (div_calls t r (by first | omega | exact ⟨by omega, by omega⟩ | assumption) (by first | omega | exact ⟨by omega, by omega⟩ | assumption) w1) ?_
    rintro e_ w13 ⟨rfl, hb14⟩
    refine ⟨_, rfl, ?_⟩
    have hs_w13 := hb14.size
    refine rw_val (v := .int .i64 u) (w' := w13) rfl rfl rfl rfl rfl ?_
    refine rw_val (v := .int .i64 r) (w' := w13) rfl rfl rfl rfl rfl ?_
    refine rw_call rfl rfl rfl rfl (f := 17) (args := #[.int .i64 u, .int .i64 r]) (by simp [go_sem, sEv, sLook, nbeq, i64_w]) (div_calls u r (by first | omega | exact ⟨by omega, by omega⟩ | assumption) (by first | omega | exact ⟨by omega, by omega⟩ | assumption) w13) ?_
    rintro e_ w15 ⟨rfl, hb16⟩
    refine ⟨_, rfl, ?_⟩
    have hs_w15 := hb16.size
    refine rw_val (v := .int .i64 (fdiv t r)) (w' := w15) rfl rfl rfl rfl rfl ?_
    refine rw_val (v := .int .i64 (fdiv u r)) (w' := w15) rfl rfl rfl rfl rfl ?_
    refine rw_end ?_
    refine w_weaken (G' := [(0, .int .i64 t), (1, .int .i64 u), (2, .int .i64 r), (3, .int .i64 k), (8, .bool false), (9, .int .i64 (fdiv t r)), (10, .int .i64 (fdiv u r))]) ⟨rfl, rfl, rfl, rfl, rfl, rfl, rfl, trivial⟩ ?_
    refine w_seq ?_
    refine w_region ?_
    refine rw_val (v := .int .i64 t) (w' := w15) rfl rfl rfl rfl rfl ?_
    refine rw_val (v := .int .i64 r) (w' := w15) rfl rfl rfl rfl rfl ?_
    refine rw_call rfl rfl rfl rfl (f := 18) (args := #[.int .i64 t, .int .i64 r]) (by simp [go_sem, sEv, sLook, nbeq, i64_w]) (mod_calls t r (by first | omega | exact ⟨by omega, by omega⟩ | assumption) (by first | omega | exact ⟨by omega, by omega⟩ | assumption) w15) ?_
    rintro e_ w17 ⟨rfl, hb18⟩
    refine ⟨_, rfl, ?_⟩
    have hs_w17 := hb18.size
    refine rw_val (v := .int .i64 (fmod t r)) (w' := w17) rfl rfl rfl rfl rfl ?_
    refine rw_end ?_
    refine w_weaken (G' := [(0, .int .i64 t), (1, .int .i64 u), (2, .int .i64 r), (3, .int .i64 k), (8, .bool false), (9, .int .i64 (fdiv t r)), (10, .int .i64 (fdiv u r)), (11, .int .i64 (fmod t r))]) ⟨rfl, rfl, rfl, rfl, rfl, rfl, rfl, rfl, trivial⟩ ?_
    refine w_seq ?_
    refine w_seq ?_
    refine w_region ?_
    refine rw_val (v := .int .i64 (fdiv t r)) (w' := w17) rfl rfl rfl rfl rfl ?_
    refine rw_val (v := .int .i64 r) (w' := w17) rfl rfl rfl rfl rfl ?_
    refine rw_val (v := .int .i64 (wrap64 ((fdiv t r) * r))) (w' := w17) rfl rfl rfl rfl (by simp [go_sem, sEv, sLook, nbeq, i64_w]) ?_
    refine rw_val (v := .int .i64 (fmod t r)) (w' := w17) rfl rfl rfl rfl rfl ?_
    refine rw_val (v := .int .i64 t) (w' := w17) rfl rfl rfl rfl (by simp [go_sem, sEv, sLook, nbeq, i64_w]; exact rise_back t r (of_decide_eq_false cR) ht) ?_
    refine rw_val (v := .int .i64 t) (w' := w17) rfl rfl rfl rfl rfl ?_
    refine rw_val (v := .bool false) (w' := w17) rfl rfl rfl rfl (by simp [go_sem, sEv, sLook, nbeq, i64_w]) ?_
    refine rw_val (v := .bool false) (w' := w17) rfl rfl rfl rfl rfl ?_
    refine rw_gval (c := false) (v := .int .i64 (fmod t r)) (w' := w17) rfl rfl rfl rfl rfl rfl rfl (by rfl) ?_
    refine rw_gval (c := false) (v := .bool (decide ((fmod t r) < 0))) (w' := w17) rfl rfl rfl rfl rfl rfl rfl (by simp [go_sem, sEv, sLook, nbeq, i64_w]) ?_
    refine rw_val (v := .bool (decide ((fmod t r) < 0))) (w' := w17) rfl rfl rfl rfl (by simp [go_sem, sEv, sLook, nbeq, i64_w]) ?_
    refine rw_val (v := .bool (decide ((fmod t r) < 0))) (w' := w17) rfl rfl rfl rfl rfl ?_
    have hq19 : (decide ((fmod t r) < 0)) = false := by have := rise_mod t r (of_decide_eq_false cR); simp; omega
    refine rw_gval (c := decide ((fmod t r) < 0)) (v := .int .i64 (fmod t r)) (w' := w17) rfl rfl rfl (by simp [hq19]) rfl rfl rfl (by rfl) ?_
    refine rw_gval (c := decide ((fmod t r) < 0)) (v := .int .i64 r) (w' := w17) rfl rfl rfl (by simp [hq19]) rfl rfl rfl (by rfl) ?_
    refine rw_gval (c := decide ((fmod t r) < 0)) (v := .bool (decide (r ≤ (fmod t r)))) (w' := w17) rfl rfl rfl (by simp [hq19]) rfl rfl rfl (by simp [go_sem, sEv, sLook, nbeq, i64_w]) ?_
    refine rw_val (v := .bool (decide (r ≤ (fmod t r)))) (w' := w17) rfl rfl rfl rfl (by simp [go_sem, sEv, sLook, nbeq, i64_w, hq19]) ?_
    refine rw_val (v := .bool (decide (r ≤ (fmod t r)))) (w' := w17) rfl rfl rfl rfl rfl ?_
    have hq20 : (decide (r ≤ (fmod t r))) = false := by have := rise_mod t r (of_decide_eq_false cR); simp; omega
    refine rw_gval (c := decide (r ≤ (fmod t r))) (v := .int .i64 t) (w' := w17) rfl rfl rfl (by simp [hq20]) rfl rfl rfl (by rfl) ?_
    refine rw_gval (c := decide (r ≤ (fmod t r))) (v := .int .i64 k) (w' := w17) rfl rfl rfl (by simp [hq20]) rfl rfl rfl (by rfl) ?_
    refine rw_gval (c := decide (r ≤ (fmod t r))) (v := .int .i64 r) (w' := w17) rfl rfl rfl (by simp [hq20]) rfl rfl rfl (by rfl) ?_
    refine rw_gcall (c := decide (r ≤ (fmod t r))) rfl rfl rfl (by simp [hq20]) rfl rfl rfl (f := 21) (args := #[.int .i64 t, .int .i64 k, .int .i64 r]) (by simp [go_sem, sEv, sLook, nbeq, i64_w]) (in_calls t k r (by first | omega | exact ⟨by omega, by omega⟩ | assumption) (by first | omega | exact ⟨by omega, by omega⟩ | assumption) w17) ?_
    rintro e_ w21 ⟨rfl, hb22⟩
    refine ⟨_, rfl, ?_⟩
    have hs_w21 := hb22.size
    refine rw_gval (c := decide (r ≤ (fmod t r))) (v := .int .i64 (fdiv t r)) (w' := w21) rfl rfl rfl (by simp [hq20]) rfl rfl rfl (by rfl) ?_
    refine rw_gval (c := decide (r ≤ (fmod t r))) (v := .int .i64 k) (w' := w21) rfl rfl rfl (by simp [hq20]) rfl rfl rfl (by rfl) ?_
    refine rw_gval (c := decide (r ≤ (fmod t r))) (v := .bool ((fdiv t r) == k)) (w' := w21) rfl rfl rfl (by simp [hq20]) rfl rfl rfl (by simp [go_sem, sEv, sLook, nbeq, i64_w]) ?_
    refine rw_gval (c := decide (r ≤ (fmod t r))) (v := .bool ((decide (1 ≤ r) && (fdiv t r == k)) != ((fdiv t r) == k))) (w' := w21) rfl rfl rfl (by simp [hq20]) rfl rfl rfl (by first | (simp [go_sem, sEv, sLook, nbeq, i64_w]; done) | (simp [go_sem, sEv, sLook, nbeq, i64_w] <;> cases h0_ : (decide (1 ≤ r) && (fdiv t r == k)) <;> cases h1_ : ((fdiv t r) == k) <;> rfl)) ?_
    refine rw_val (v := .bool ((decide (1 ≤ r) && (fdiv t r == k)) != ((fdiv t r) == k))) (w' := w21) rfl rfl rfl rfl (by simp [go_sem, sEv, sLook, nbeq, i64_w, hq20]) ?_
    refine rw_end ?_
    refine w_weaken (G' := [(0, .int .i64 t), (1, .int .i64 u), (8, .bool false), (9, .int .i64 (fdiv t r)), (10, .int .i64 (fdiv u r)), (67, .bool ((decide (1 ≤ r) && (fdiv t r == k)) != ((fdiv t r) == k)))]) ⟨rfl, rfl, rfl, rfl, rfl, rfl, trivial⟩ ?_
    have hq23 : ((decide (1 ≤ r) && (fdiv t r == k)) != ((fdiv t r) == k)) = false := by have := of_decide_eq_false cR; rw [decide_eq_true (by omega)]; simp
    refine w_cond_f rfl rfl hq23 ?_
    refine w_skip ?_
    refine w_seq ?_
    refine w_region ?_
    refine rw_val (v := .int .i64 t) (w' := w21) rfl rfl rfl rfl rfl ?_
    refine rw_val (v := .int .i64 u) (w' := w21) rfl rfl rfl rfl rfl ?_
    refine rw_val (v := .bool (decide (t ≤ u))) (w' := w21) rfl rfl rfl rfl (by simp [go_sem, sEv, sLook, nbeq, i64_w]) ?_
    refine rw_val (v := .bool (!(decide (t ≤ u)))) (w' := w21) rfl rfl rfl rfl (by simp [go_sem, sEv, sLook, nbeq, i64_w]) ?_
    refine rw_val (v := .bool (!(decide (t ≤ u)))) (w' := w21) rfl rfl rfl rfl rfl ?_
    rcases bcase (!(decide (t ≤ u))) with cL | cL
    · refine rw_gval (c := !(decide (t ≤ u))) (v := .int .i64 (fdiv t r)) (w' := w21) rfl rfl rfl (by simp [cL]) rfl rfl rfl (by rfl) ?_
      refine rw_gval (c := !(decide (t ≤ u))) (v := .int .i64 (fdiv u r)) (w' := w21) rfl rfl rfl (by simp [cL]) rfl rfl rfl (by rfl) ?_
      refine rw_gval (c := !(decide (t ≤ u))) (v := .bool (decide ((fdiv t r) ≤ (fdiv u r)))) (w' := w21) rfl rfl rfl (by simp [cL]) rfl rfl rfl (by simp [go_sem, sEv, sLook, nbeq, i64_w]) ?_
      refine rw_val (v := .bool (decide ((fdiv t r) ≤ (fdiv u r)))) (w' := w21) rfl rfl rfl rfl (by simp [go_sem, sEv, sLook, nbeq, i64_w, cL]) ?_
      refine rw_val (v := .bool (decide ((fdiv t r) ≤ (fdiv u r)))) (w' := w21) rfl rfl rfl rfl rfl ?_
      refine rw_end ?_
      refine w_weaken (G' := [(8, .bool (decide ((fdiv t r) ≤ (fdiv u r))))]) ⟨rfl, trivial⟩ ?_
      have hq24 : (decide ((fdiv t r) ≤ (fdiv u r))) = true := by simp; exact rise_le t u r (of_decide_eq_true (not_false cL))
      refine w_ret (post_ret1 rfl rfl ?_)
      exact ⟨by simp only [hq24], (chain (chain (chain (chain hb2 hb14) hb16) hb18) hb22)⟩
    · refine rw_off (c := !(decide (t ≤ u))) rfl rfl rfl (by simp [cL]) rfl rfl ?_
      refine rw_off (c := !(decide (t ≤ u))) rfl rfl rfl (by simp [cL]) rfl rfl ?_
      refine rw_off (c := !(decide (t ≤ u))) rfl rfl rfl (by simp [cL]) rfl rfl ?_
      refine rw_val (v := .bool true) (w' := w21) rfl rfl rfl rfl (by simp [go_sem, sEv, sLook, nbeq, i64_w, cL]) ?_
      refine rw_val (v := .bool true) (w' := w21) rfl rfl rfl rfl rfl ?_
      refine rw_end ?_
      refine w_weaken (G' := [(8, .bool true)]) ⟨rfl, trivial⟩ ?_
      refine w_ret (post_ret1 rfl rfl ?_)
      exact ⟨rfl, (chain (chain (chain (chain hb2 hb14) hb16) hb18) hb22)⟩
set_option maxHeartbeats 4000000 in
theorem walkRises (t u r k : Int) (ht : -9223372036854775808 ≤ t ∧ t ≤ 9223372036854775807) (hu : -9223372036854775808 ≤ u ∧ u ≤ 9223372036854775807) (hr : -9223372036854775808 ≤ r ∧ r ≤ 9223372036854775807) (w : World) :
    Calls Try.prog 7 #[.agg #[.int .i64 t, .int .i64 u, .int .i64 r, .int .i64 k]] w fun e w' => e = .returned (.bool true) ∧ Below w.heap.size w w' := by
  refine calls_flow Try.func7 rfl 12 rfl (Nat.le_of_ble_eq_true rfl) [(0, .agg #[.int .i64 t, .int .i64 u, .int .i64 r, .int .i64 k])] ?_ ?_
  · intro t v h; exact args_look rfl t v h
  refine w_seq ?_
  refine w_region ?_
  refine rw_new (cs := #[.int .i64 t, .int .i64 u, .int .i64 r, .int .i64 k]) (t := 34) (fun g => .pointer (some ⟨g, 0, none⟩)) rfl rfl rfl rfl (by simp [go_sem, sEv, sLook, nbeq, i64_w]) ?_
  intro g1 w2 hg6 hz5 hb3 hk4
  have hs_w2 := hb3.size
  refine rw_val (v := .bool false) (w' := w2) rfl rfl rfl rfl rfl ?_
  refine rw_end ?_
  refine w_seq ?_
  refine w_region ?_
  refine rw_val (v := .pointer (some ⟨g1, 0, none⟩)) (w' := w2) rfl rfl rfl rfl (by simp [go_sem, sEv, sLook, nbeq, i64_w, Try.underlying34]) ?_
  refine rw_val (v := .int .i64 t) (w' := w2) rfl rfl rfl rfl (by have eb_ := hk4; have e0_ := eb_.cellv (i := 0) (v := (.int .i64 t : Value)) rfl; simp [go_sem, sEv, sLook, nbeq, i64_w, e0_]) ?_
  refine rw_val (v := .pointer (some ⟨g1, 1, none⟩)) (w' := w2) rfl rfl rfl rfl (by simp [go_sem, sEv, sLook, nbeq, i64_w, Try.underlying34]) ?_
  refine rw_val (v := .int .i64 u) (w' := w2) rfl rfl rfl rfl (by have eb_ := hk4; have e0_ := eb_.cellv (i := 1) (v := (.int .i64 u : Value)) rfl; simp [go_sem, sEv, sLook, nbeq, i64_w, e0_]) ?_
  refine rw_val (v := .pointer (some ⟨g1, 2, none⟩)) (w' := w2) rfl rfl rfl rfl (by simp [go_sem, sEv, sLook, nbeq, i64_w, Try.underlying34]) ?_
  refine rw_val (v := .int .i64 r) (w' := w2) rfl rfl rfl rfl (by have eb_ := hk4; have e0_ := eb_.cellv (i := 2) (v := (.int .i64 r : Value)) rfl; simp [go_sem, sEv, sLook, nbeq, i64_w, e0_]) ?_
  refine rw_val (v := .pointer (some ⟨g1, 3, none⟩)) (w' := w2) rfl rfl rfl rfl (by simp [go_sem, sEv, sLook, nbeq, i64_w, Try.underlying34]) ?_
  refine rw_val (v := .int .i64 k) (w' := w2) rfl rfl rfl rfl (by have eb_ := hk4; have e0_ := eb_.cellv (i := 3) (v := (.int .i64 k : Value)) rfl; simp [go_sem, sEv, sLook, nbeq, i64_w, e0_]) ?_
  refine rw_call rfl rfl rfl rfl (f := 22) (args := #[.int .i64 t, .int .i64 u, .int .i64 r, .int .i64 k]) (by simp [go_sem, sEv, sLook, nbeq, i64_w]) (risesCalls t u r k ht hu hr w2) ?_
  rintro e_ w7 ⟨rfl, hb8⟩
  refine ⟨_, rfl, ?_⟩
  have hs_w7 := hb8.size
  refine rw_val (v := .bool true) (w' := w7) rfl rfl rfl rfl rfl ?_
  refine rw_end ?_
  refine w_weaken (G' := [(2, .bool true)]) ⟨rfl, trivial⟩ ?_
  refine w_ret (post_ret1 rfl rfl ?_)
  exact ⟨rfl, (chain hb3 hb8)⟩
theorem walkShifts (t k : Int) (ht : -9223372036854775808 ≤ t ∧ t ≤ 9223372036854775807) (hk : -9223372036854775808 ≤ k ∧ k ≤ 9223372036854775807) (w : World) : Calls Try.prog 4 #[.int .i64 t, .int .i64 k] w fun e w' => e = .returned (.bool true) ∧ Below w.heap.size w w' := by
  have h1 := u64_range k
  have h2 := Int.tmod_eq_emod_of_nonneg (b := 63) h1.1
  exact walkShifts0 t k _ (Int.tmod (IntKind.u64.wrap k) 63).toNat ht hk (by omega) (by omega) (by have h3 := pow_lt (Int.tmod (IntKind.u64.wrap k) 63).toNat (by omega); have h4 := Nat.two_pow_pos (Int.tmod (IntKind.u64.wrap k) 63).toNat; omega) (Int.natCast_pow 2 _).symm (by rw [shift_div]; simp) (by rw [shift_mod]; simp) (and_mask t _ (by omega)) w
end Go.Proofs.Ythhepaikogcddaa.PFloorGroup
