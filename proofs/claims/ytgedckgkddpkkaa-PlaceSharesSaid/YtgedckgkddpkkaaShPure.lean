/- Plain facts on what PlaceShares computes. -/
import Derived.Test.YtgedckgkddpkkaaPPlaceSharesx3
namespace Go.Proofs.Ytgedckgkddpkkaa.PPlaceShares
open Go.RowKit Go.Proofs.YtgedckgkddpkkaaW.PrintWords Go.Proofs.YtgedckgkddpkkaaW.PrintLast Go.Proofs.YtgedckgkddpkkaaW.PrintMore

set_option linter.unusedVariables false
theorem alive_true : estuarylaw03_alive.f 3 = some true := by decide +kernel

theorem wrap_id {x : Int} (h1 : -9223372036854775808 ≤ x) (h2 : x ≤ 9223372036854775807) : wrap64 x = x := by unfold wrap64; omega
theorem ediv_range (t r : Int) (hr : 1 ≤ r) (h1 : -9223372036854775808 ≤ t) (h2 : t ≤ 9223372036854775807) : -9223372036854775808 ≤ t / r ∧ t / r ≤ 9223372036854775807 :=
  ⟨Int.le_ediv_of_mul_le (by omega) (by omega), Int.ediv_le_of_le_mul (by omega) (by omega)⟩
theorem floor_div (t r : Int) (hr : 1 ≤ r) (h1 : -9223372036854775808 ≤ t) (h2 : t ≤ 9223372036854775807) : floor_Div.f t r = some (t / r) := by
  have hq := ediv_range t r hr h1 h2
  have hm := Int.emod_lt_of_pos t (by omega : 0 < r)
  have hm0 := Int.emod_nonneg t (by omega : r ≠ 0)
  have e1 := @Int.tdiv_eq_ediv t r
  have e2 := @Int.tmod_eq_emod t r
  have hs : r.sign = 1 := Int.sign_eq_one_of_pos (by omega)
  unfold floor_Div.f
  rw [if_neg (by omega), if_neg (by omega)]
  by_cases hc : 0 ≤ t ∨ r ∣ t
  · rw [if_pos hc] at e1 e2
    rw [if_neg (by omega), e1, Int.add_zero, wrap_id hq.1 hq.2]
  · rw [if_neg hc] at e1 e2
    have h0 : t < 0 := by omega
    have h3 : t / r < 0 := Int.ediv_neg_of_neg_of_pos h0 (by omega)
    rw [if_pos (by omega), e1, hs, wrap_id (x := t / r + 1) (by omega) (by omega), wrap_id (by omega) (by omega)]
    congr 1
    omega
theorem ref_div (t r : Int) (hr : 1 ≤ r) (h1 : -9223372036854775808 ≤ t) (h2 : t ≤ 9223372036854775807) : estuaryref01_Div.f t r = some (t / r) := by
  have hq := ediv_range t r hr h1 h2
  unfold estuaryref01_Div.f
  rw [if_neg (by omega)]
  by_cases h0 : t ≥ 0
  · rw [if_pos h0, if_neg (by omega), Int.tdiv_eq_ediv_of_nonneg h0, wrap_id hq.1 hq.2]
  · rw [if_neg h0, if_neg (by omega)]
    rw [wrap_id (x := t + 1) (by omega) (by omega), wrap_id (x := -(t + 1)) (by omega) (by omega), wrap_id (x := -(-(t + 1))) (by omega) (by omega), Int.neg_neg]
    have h3 : Int.tdiv (t + 1) r = t / r + 1 := by
      have e1 : Int.tdiv (t + 1) r = -(Int.tdiv (-(t + 1)) r) := by rw [Int.neg_tdiv, Int.neg_neg]
      rw [e1, Int.tdiv_eq_ediv_of_nonneg (by omega)]
      have hm := Int.emod_lt_of_pos t (by omega : 0 < r)
      have hm0 := Int.emod_nonneg t (by omega : r ≠ 0)
      have hd := Int.mul_ediv_add_emod t r
      have : (-(t + 1)) / r = -(t / r) - 1 := by
        refine (Int.ediv_emod_unique (r := r - 1 - t % r) (by omega : 0 < r)).2 ⟨?_, by omega, by omega⟩ |>.1
        rw [Int.mul_sub, Int.mul_neg]
        omega
      rw [this]
      omega
    have h4 : t / r < 0 := Int.ediv_neg_of_neg_of_pos (by omega) (by omega)
    rw [h3, wrap_id (x := t / r + 1) (by omega) (by omega), wrap_id (by omega) (by omega)]
    congr 1
    omega
/-- The key's shard of three. -/
theorem mod3 (t : Int) (h1 : -9223372036854775808 ≤ t) (h2 : t ≤ 9223372036854775807) : floor_Mod.f t 3 = some (t % 3) := by
  unfold floor_Mod.f
  rw [if_neg (by omega), if_neg (by omega)]
  have a : ∀ m : Int, (m = -2 ∨ m = -1 ∨ m = 0 ∨ m = 1 ∨ m = 2) → wrap64 (m + Go.bits .and .i64 3 (m / 9223372036854775808)) = m % 3 := by
    intro m hm
    rcases hm with rfl | rfl | rfl | rfl | rfl <;> decide +kernel
  have g1 := Int.tmod_lt_of_pos t (by decide : (0 : Int) < 3)
  have g2 := Int.lt_tmod_of_pos t (by decide : (0 : Int) < 3)
  have g3 := Int.mul_tdiv_add_tmod t 3
  have h3 : Int.tmod t 3 = -2 ∨ Int.tmod t 3 = -1 ∨ Int.tmod t 3 = 0 ∨ Int.tmod t 3 = 1 ∨ Int.tmod t 3 = 2 := by omega
  rw [a _ h3]
  congr 1
  omega
theorem ids_one (a0 a1 t key a4 r : Int) (hr : 1 ≤ r) (h1 : -9223372036854775808 ≤ t) (h2 : t ≤ 9223372036854775807) (h3 : -9223372036854775808 ≤ key) (h4 : key ≤ 9223372036854775807) :
    place_Ids.f 3 a0 a1 t key a4 [r] 3 = some [⟨key % 3, ⟨t / r, key⟩⟩] := by
  have hl : place_Lane.f 0 (key % 3) 3 = some (key % 3) := by
    unfold place_Lane.f
    rw [show (0 : Int) * 3 = 0 by rfl, wrap_id (x := 0) (by omega) (by omega), wrap_id (by omega) (by omega)]
    congr 1
    omega
  have hsh : place_Shard.f key 3 = some (key % 3) := by unfold place_Shard.f; rw [mod3 key h3 h4]; rfl
  unfold place_Ids.f
  simp only [place_Ids.l0, List.length_singleton]
  rw [if_pos (by decide), if_pos (by decide), if_pos (by decide), hsh]
  simp only [Option.bind_some]
  rw [hl]
  simp only [Option.bind_some]
  rw [show rd [r] 0 = r from rfl, floor_div t r hr h1 h2]
  simp only [Option.bind_some, List.length_nil]
  rw [if_pos (by decide), wrap_id (by decide) (by decide), if_neg (by decide)]
  rfl
end Go.Proofs.Ytgedckgkddpkkaa.PPlaceShares
