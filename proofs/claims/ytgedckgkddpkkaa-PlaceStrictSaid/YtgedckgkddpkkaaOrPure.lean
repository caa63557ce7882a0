/- Plain facts on places. -/
import Derived.Test.YtgedckgkddpkkaaPPlaceOrdersx4
namespace Go.Proofs.Ytgedckgkddpkkaa.PPlaceOrders
open Go.RowKit Go.Proofs.YtgedckgkddpkkaaW.PrintWords Go.Proofs.YtgedckgkddpkkaaW.PrintLast Go.Proofs.YtgedckgkddpkkaaW.PrintMore
set_option linter.unusedVariables false
set_option linter.unusedSimpArgs false
theorem alive_true : estuarylaw03_alive.f 3 = some true := by decide +kernel
def sgn (a b : Int) : Int := if a < b then -1 else if a > b then 1 else 0
theorem compare_sgn (a b : Int) : cmp_Compare_int.f a b = some (sgn a b) := by
  unfold cmp_Compare_int.f cmp_isNaN_int.f sgn
  simp only [bne_self_eq_false, Option.bind_some, Bool.false_eq_true, if_false]
  split
  · rfl
  · split <;> rfl
theorem or_two (a b : Int) : cmp_Or_int.f 3 [a, b] = some (if a = 0 then b else a) := by
  have w0 : wrap64 1 = 1 := by decide +kernel
  have w1 : wrap64 2 = 2 := by decide +kernel
  have r0 : rd [a, b] 0 = a := rfl
  have r1 : rd [a, b] 1 = b := rfl
  unfold cmp_Or_int.f
  by_cases h : a = 0
  · by_cases h2 : b = 0
    · subst h h2
      simp [cmp_Or_int.l0, w0, w1, r0, r1]
    · subst h
      simp [cmp_Or_int.l0, w0, w1, r0, r1, h2]
  · simp [cmp_Or_int.l0, w0, w1, r0, r1, h]
def lexLt (a0 a1 b0 b1 : Int) : Bool := decide (a0 < b0 ∨ a0 = b0 ∧ a1 < b1)
theorem less_lex (a0 a1 b0 b1 : Int) : place_Less.f 3 a0 a1 b0 b1 = some (lexLt a0 a1 b0 b1) := by
  unfold place_Less.f
  rw [compare_sgn, compare_sgn]
  simp only [Option.bind_some]
  rw [or_two]
  simp only [Option.bind_some, lexLt]
  congr 1
  rw [Bool.eq_iff_iff]
  simp only [decide_eq_true_eq]
  unfold sgn
  split <;> split <;> (try split) <;> (try split) <;> omega
theorem refless_lex (a0 a1 b0 b1 : Int) : estuaryref03_Less.f a0 a1 b0 b1 = some (lexLt a0 a1 b0 b1) := by
  unfold estuaryref03_Less.f lexLt
  split
  · congr 1; rw [Bool.eq_iff_iff]; simp only [decide_eq_true_eq]; omega
  · congr 1; rw [Bool.eq_iff_iff]; simp only [decide_eq_true_eq]; omega
theorem within_lex (p0 p1 a0 a1 b0 b1 : Int) : place_Within.f 3 p0 p1 a0 a1 b0 b1 = some (!lexLt p0 p1 a0 a1 && lexLt p0 p1 b0 b1) := by
  unfold place_Within.f
  rw [less_lex, less_lex]
  simp only [Option.bind_some]
  cases lexLt p0 p1 a0 a1 <;> simp
/-- The next place. -/
def nxt (p0 p1 : Int) : Int × Int × Bool := if p1 < 9223372036854775807 then (p0, p1 + 1, true) else if p0 < 9223372036854775807 then (p0 + 1, -9223372036854775808, true) else (p0, p1, false)
theorem wrap_id {x : Int} (h1 : -9223372036854775808 ≤ x) (h2 : x ≤ 9223372036854775807) : wrap64 x = x := by unfold wrap64; omega
theorem after_nxt (p0 p1 : Int) (h0 : -9223372036854775808 ≤ p0 ∧ p0 ≤ 9223372036854775807) (h1 : -9223372036854775808 ≤ p1 ∧ p1 ≤ 9223372036854775807) : place_After.f p0 p1 = some (nxt p0 p1) := by
  unfold place_After.f nxt
  split
  · rw [wrap_id (by omega) (by omega)]
  · split
    · rw [wrap_id (by omega) (by omega)]
    · rfl
theorem refafter_nxt (p0 p1 : Int) (h0 : -9223372036854775808 ≤ p0 ∧ p0 ≤ 9223372036854775807) (h1 : -9223372036854775808 ≤ p1 ∧ p1 ≤ 9223372036854775807) : estuaryref03_After.f p0 p1 = some (nxt p0 p1) := by
  unfold estuaryref03_After.f nxt
  by_cases e1 : p1 = 9223372036854775807
  · rw [if_pos e1, if_neg (by omega : ¬ p1 < 9223372036854775807)]
    by_cases e0 : p0 = 9223372036854775807
    · rw [if_pos e0, if_neg (by omega : ¬ p0 < 9223372036854775807)]
    · rw [if_neg e0, if_pos (by omega : p0 < 9223372036854775807), wrap_id (by omega) (by omega)]
  · rw [if_neg e1, if_pos (by omega : p1 < 9223372036854775807), wrap_id (by omega) (by omega)]
end Go.Proofs.Ytgedckgkddpkkaa.PPlaceOrders
