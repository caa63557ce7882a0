/- Plain facts on what PlaceCloses computes. -/
import Derived.Test.YtgedckgkddpkkaaPPlaceClosesx5
namespace Go.Proofs.Ytgedckgkddpkkaa.PPlaceCloses
open Go.RowKit Go.Proofs.YtgedckgkddpkkaaW.PrintWords Go.Proofs.YtgedckgkddpkkaaW.PrintLast Go.Proofs.YtgedckgkddpkkaaW.PrintMore
set_option linter.unusedVariables false
set_option linter.unusedSimpArgs false
theorem alive_true : estuarylaw03_alive.f 3 = some true := by decide +kernel
theorem wrap_id {x : Int} (h1 : -9223372036854775808 ≤ x) (h2 : x ≤ 9223372036854775807) : wrap64 x = x := by unfold wrap64; omega
theorem ediv_range (t r : Int) (hr : 1 ≤ r) (h1 : -9223372036854775808 ≤ t) (h2 : t ≤ 9223372036854775807) : -9223372036854775808 ≤ t / r ∧ t / r ≤ 9223372036854775807 :=
  ⟨Int.le_ediv_of_mul_le (by omega) (by omega), Int.ediv_le_of_le_mul (by omega) (by omega)⟩
theorem floor_div (t r : Int) (hr : 1 ≤ r) (h1 : -9223372036854775808 ≤ t) (h2 : t ≤ 9223372036854775807) : floor_Div.f t r = some (t / r) := by
  have hq := ediv_range t r hr h1 h2
  have hm := Int.emod_lt_of_pos t (by omega : 0 < r)
  have hm0 := Int.emod_nonneg t (by omega : r ≠ 0)
  have e1 := @Int.tdiv_eq_ediv t r
  have e2 := @Int.tmod_eq_emod t r
  have hs : r.sign = 1 := Int.sign_eq_one_of_pos (by omega)
  unfold floor_Div.f
  rw [if_neg (by omega), if_neg (by omega)]
  by_cases hc : 0 ≤ t ∨ r ∣ t
  · rw [if_pos hc] at e1 e2
    rw [if_neg (by omega), e1, Int.add_zero, wrap_id hq.1 hq.2]
  · rw [if_neg hc] at e1 e2
    have h0 : t < 0 := by omega
    have h3 : t / r < 0 := Int.ediv_neg_of_neg_of_pos h0 (by omega)
    rw [if_pos (by omega), e1, hs, wrap_id (x := t / r + 1) (by omega) (by omega), wrap_id (by omega) (by omega)]
    congr 1
    omega
theorem ref_div (t r : Int) (hr : 1 ≤ r) (h1 : -9223372036854775808 ≤ t) (h2 : t ≤ 9223372036854775807) : estuaryref01_Div.f t r = some (t / r) := by
  have hq := ediv_range t r hr h1 h2
  unfold estuaryref01_Div.f
  rw [if_neg (by omega)]
  by_cases h0 : t ≥ 0
  · rw [if_pos h0, if_neg (by omega), Int.tdiv_eq_ediv_of_nonneg h0, wrap_id hq.1 hq.2]
  · rw [if_neg h0, if_neg (by omega)]
    rw [wrap_id (x := t + 1) (by omega) (by omega), wrap_id (x := -(t + 1)) (by omega) (by omega), wrap_id (x := -(-(t + 1))) (by omega) (by omega), Int.neg_neg]
    have h3 : Int.tdiv (t + 1) r = t / r + 1 := by
      have e1 : Int.tdiv (t + 1) r = -(Int.tdiv (-(t + 1)) r) := by rw [Int.neg_tdiv, Int.neg_neg]
      rw [e1, Int.tdiv_eq_ediv_of_nonneg (by omega)]
      have hm := Int.emod_lt_of_pos t (by omega : 0 < r)
      have hm0 := Int.emod_nonneg t (by omega : r ≠ 0)
      have hd := Int.mul_ediv_add_emod t r
      have : (-(t + 1)) / r = -(t / r) - 1 := by
        refine (Int.ediv_emod_unique (r := r - 1 - t % r) (by omega : 0 < r)).2 ⟨?_, by omega, by omega⟩ |>.1
        rw [Int.mul_sub, Int.mul_neg]
        omega
      rw [this]
      omega
    have h4 : t / r < 0 := Int.ediv_neg_of_neg_of_pos (by omega) (by omega)
    rw [h3, wrap_id (x := t / r + 1) (by omega) (by omega), wrap_id (by omega) (by omega)]
    congr 1
    omega
def sgn (a b : Int) : Int := if a < b then -1 else if a > b then 1 else 0
theorem compare_sgn (a b : Int) : cmp_Compare_int.f a b = some (sgn a b) := by
  unfold cmp_Compare_int.f cmp_isNaN_int.f sgn
  simp only [bne_self_eq_false, Option.bind_some, Bool.false_eq_true, if_false]
  split
  · rfl
  · split <;> rfl
theorem or_two (a b : Int) : cmp_Or_int.f 3 [a, b] = some (if a = 0 then b else a) := by
  have w0 : wrap64 1 = 1 := by decide +kernel
  have w1 : wrap64 2 = 2 := by decide +kernel
  have r0 : rd [a, b] 0 = a := rfl
  have r1 : rd [a, b] 1 = b := rfl
  unfold cmp_Or_int.f
  by_cases h : a = 0
  · by_cases h2 : b = 0
    · subst h h2
      simp [cmp_Or_int.l0, w0, w1, r0, r1]
    · subst h
      simp [cmp_Or_int.l0, w0, w1, r0, r1, h2]
  · simp [cmp_Or_int.l0, w0, w1, r0, r1, h]
def lexLt (a0 a1 b0 b1 : Int) : Bool := decide (a0 < b0 ∨ a0 = b0 ∧ a1 < b1)
theorem less_lex (a0 a1 b0 b1 : Int) : place_Less.f 3 a0 a1 b0 b1 = some (lexLt a0 a1 b0 b1) := by
  unfold place_Less.f
  rw [compare_sgn, compare_sgn]
  simp only [Option.bind_some]
  rw [or_two]
  simp only [Option.bind_some, lexLt]
  congr 1
  rw [Bool.eq_iff_iff]
  simp only [decide_eq_true_eq]
  unfold sgn
  split <;> split <;> (try split) <;> (try split) <;> omega

theorem mod1 (t : Int) : floor_Mod.f t 1 = some 0 := by
  unfold floor_Mod.f
  rw [if_neg (by omega), if_neg (by omega), Int.tmod_one]
  decide +kernel
theorem ref_mod (t r : Int) (hr : 1 ≤ r) (hr2 : r ≤ 9223372036854775807) (h1 : -9223372036854775808 ≤ t) (h2 : t ≤ 9223372036854775807) : estuaryref01_Mod.f t r = some (t % r) := by
  have hm := Int.emod_lt_of_pos t (by omega : 0 < r)
  have hm0 := Int.emod_nonneg t (by omega : r ≠ 0)
  unfold estuaryref01_Mod.f
  rw [if_neg (by omega)]
  by_cases h0 : t ≥ 0
  · rw [if_pos h0, if_neg (by omega), Int.tmod_eq_emod_of_nonneg h0]
  · rw [if_neg h0, if_neg (by omega), wrap_id (x := t + 1) (by omega) (by omega), wrap_id (x := -(t + 1)) (by omega) (by omega), Int.tmod_eq_emod_of_nonneg (by omega)]
    have hd := Int.mul_ediv_add_emod t r
    have h3 : (-(t + 1)) % r = r - 1 - t % r := by
      refine (Int.ediv_emod_unique (q := -(t / r) - 1) (by omega : 0 < r)).2 ⟨?_, by omega, by omega⟩ |>.2
      rw [Int.mul_sub, Int.mul_neg]
      omega
    rw [h3, wrap_id (x := r - 1) (by omega) (by omega), wrap_id (by omega) (by omega)]
    congr 1
    omega
theorem ids_one (a0 a1 t key a4 r : Int) (hr : 1 ≤ r) (h1 : -9223372036854775808 ≤ t) (h2 : t ≤ 9223372036854775807) :
    place_Ids.f 3 a0 a1 t key a4 [r] 1 = some [⟨0, ⟨t / r, key⟩⟩] := by
  have hl : place_Lane.f 0 0 1 = some 0 := by decide +kernel
  have hsh : place_Shard.f key 1 = some 0 := by unfold place_Shard.f; rw [mod1 key]; rfl
  unfold place_Ids.f
  simp only [place_Ids.l0, List.length_singleton]
  rw [if_pos (by decide), if_pos (by decide), if_pos (by decide), hsh]
  simp only [Option.bind_some]
  rw [hl]
  simp only [Option.bind_some]
  rw [show rd [r] 0 = r from rfl, floor_div t r hr h1 h2]
  simp only [Option.bind_some, List.length_nil]
  rw [if_pos (by decide), wrap_id (by decide) (by decide), if_neg (by decide)]
  rfl
theorem closes_true (a0 a1 t key a4 mark r : Int) (hr2 : r ≤ 9223372036854775807) (h1 : -9223372036854775808 ≤ t) (h2 : t ≤ 9223372036854775807) (h3 : -9223372036854775808 ≤ key)
    (h4 : -9223372036854775808 ≤ mark) (h5 : mark ≤ 9223372036854775807) : estuarylaw03_PlaceCloses.f 3 a0 a1 t key a4 mark r = some true := by
  unfold estuarylaw03_PlaceCloses.f
  rw [alive_true]
  simp only [Option.bind_some, if_true]
  by_cases hr : r < 1
  · have e1 : floor_Div.f mark r = some 0 := by unfold floor_Div.f; rw [if_pos hr]
    have e2 : estuaryref01_Div.f mark r = some 0 := by unfold estuaryref01_Div.f; rw [if_pos hr]
    unfold place_Closed.f estuaryref03_Closed.f
    rw [e1, e2]
    simp [hr]
  · have hr1 : 1 ≤ r := by omega
    unfold place_Closed.f estuaryref03_Closed.f
    rw [floor_div mark r hr1 h4 h5, ref_div mark r hr1 h4 h5, ids_one a0 a1 t key a4 r hr1 h1 h2]
    simp only [Option.bind_some]
    rw [if_neg (by simp), if_neg hr, if_pos (by simp)]
    have hrd : rd_T31 [(⟨0, ⟨t / r, key⟩⟩ : S31)] 0 = ⟨0, ⟨t / r, key⟩⟩ := rfl
    rw [hrd]
    simp only
    rw [less_lex]
    simp only [Option.bind_some]
    have hlx : lexLt (t / r) key (mark / r) (-9223372036854775808) = decide (t / r < mark / r) := by
      unfold lexLt
      rw [Bool.eq_iff_iff]
      simp only [decide_eq_true_eq]
      omega
    rw [hlx]
    have hm := Int.emod_lt_of_pos t (by omega : 0 < r)
    have hm0 := Int.emod_nonneg t (by omega : r ≠ 0)
    have hd := Int.mul_ediv_add_emod t r
    have key1 : t / r < mark / r ↔ t + (r - 1 - t % r) < mark := by
      have e1 : t / r < mark / r ↔ t / r + 1 ≤ mark / r := by omega
      rw [e1, Int.le_ediv_iff_mul_le (by omega : 0 < r), Int.add_mul, Int.one_mul, Int.mul_comm]
      omega
    have hj : ∀ x39 : Bool, x39 = false → estuarylaw03_PlaceCloses.j0 3 mark r (decide (t / r < mark / r)) x39 a0 a1 t key a4 = some true := by
      intro x39 hx
      subst hx
      simp only [estuarylaw03_PlaceCloses.j0]
      rw [if_neg (by simp), ref_mod t r hr1 hr2 h1 h2]
      simp only [Option.bind_some]
      rw [wrap_id (x := r - 1) (by omega) (by omega), wrap_id (x := r - 1 - t % r) (by omega) (by omega), wrap_id (x := 9223372036854775807 - (r - 1 - t % r)) (by omega) (by omega)]
      by_cases hg : t > 9223372036854775807 - (r - 1 - t % r)
      · rw [if_pos hg]
        have : ¬ t / r < mark / r := by rw [key1]; omega
        simp [this]
      · rw [if_neg hg, wrap_id (x := t + (r - 1 - t % r)) (by omega) (by omega)]
        have : decide (t / r < mark / r) = decide (t + (r - 1 - t % r) < mark) := by rw [Bool.eq_iff_iff]; simp only [decide_eq_true_eq]; exact key1
        rw [this]
        simp
    by_cases hge : t ≥ mark
    · rw [if_pos hge]
      refine hj _ ?_
      have : ¬ t / r < mark / r := by rw [key1]; omega
      simpa using this
    · rw [if_neg hge]
      exact hj _ rfl
theorem closes_all (a0 a1 t key a4 mark r : Int) (w : World) (hr2 : r ≤ 9223372036854775807) (h1 : -9223372036854775808 ≤ t) (h2 : t ≤ 9223372036854775807) (h3 : -9223372036854775808 ≤ key)
    (h4 : -9223372036854775808 ≤ mark) (h5 : mark ≤ 9223372036854775807) :
    Calls Try.prog 5 #[.agg #[.int .i64 a0, .int .i64 a1, .int .i64 t, .int .i64 key, .int .i64 a4], .int .i64 mark, .int .i64 r] w fun e w' => e = .returned (.bool true) ∧ Below w.heap.size w w' :=
  estuarylaw03_PlaceCloses.calls 3 a0 a1 t key a4 mark r true w (closes_true a0 a1 t key a4 mark r hr2 h1 h2 h3 h4 h5)
end Go.Proofs.Ytgedckgkddpkkaa.PPlaceCloses
