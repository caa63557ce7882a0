/- The order of places, and the next one: plain facts. -/
import Derived.Test.YtgedckgkddpkkaaOrPure
namespace Go.Proofs.Ytgedckgkddpkkaa.PPlaceOrders
open Go.RowKit
theorem lex_irr (a0 a1 : Int) : lexLt a0 a1 a0 a1 = false := by simp [lexLt]
theorem lex_asym {a0 a1 b0 b1 : Int} (h : lexLt a0 a1 b0 b1 = true) : lexLt b0 b1 a0 a1 = false := by
  simp only [lexLt, decide_eq_true_eq, decide_eq_false_iff_not] at h ⊢; omega
theorem lex_tri {a0 a1 b0 b1 : Int} (h : lexLt a0 a1 b0 b1 = false) : ((!lexLt b0 b1 a0 a1) != (a0 == b0 && (a1 == b1))) = false := by
  simp only [lexLt, decide_eq_false_iff_not] at h
  have e : (!lexLt b0 b1 a0 a1) = (a0 == b0 && (a1 == b1)) := by
    rw [Bool.eq_iff_iff]
    simp [lexLt]
    omega
  rw [e]; simp
theorem lex_least {a0 a1 : Int} (h0 : -9223372036854775808 ≤ a0) (h1 : -9223372036854775808 ≤ a1) : lexLt a0 a1 (-9223372036854775808) (-9223372036854775808) = false := by
  simp only [lexLt, decide_eq_false_iff_not]; omega
theorem lex_trans {p0 p1 a0 a1 b0 b1 : Int} (h : lexLt p0 p1 a0 a1 = true) (k : lexLt a0 a1 b0 b1 = true) : lexLt p0 p1 b0 b1 = true := by
  simp only [lexLt, decide_eq_true_eq] at h k ⊢; omega
theorem nxt_ex {p0 p1 a0 a1 n0 n1 : Int} {nb : Bool} (hn : nxt p0 p1 = (n0, n1, nb)) (ha0 : a0 ≤ 9223372036854775807) (ha1 : a1 ≤ 9223372036854775807) (h : lexLt p0 p1 a0 a1 = true) : nb = true := by
  simp only [lexLt, decide_eq_true_eq] at h
  unfold nxt at hn
  split at hn
  · simp at hn; simp [← hn.2.2]
  · split at hn
    · simp at hn; simp [← hn.2.2]
    · omega
theorem nxt_no {p0 p1 n0 n1 : Int} {nb : Bool} (hn : nxt p0 p1 = (n0, n1, nb)) (h : nb = false) : (n0 == p0 && (n1 == p1)) = true := by
  subst h
  unfold nxt at hn
  split at hn
  · simp at hn
  · split at hn
    · simp at hn
    · simp at hn; simp [hn.1, hn.2]
theorem nxt_lt {p0 p1 n0 n1 : Int} {nb : Bool} (hn : nxt p0 p1 = (n0, n1, nb)) (h : nb = true) : lexLt p0 p1 n0 n1 = true := by
  subst h
  unfold nxt at hn
  simp only [lexLt, decide_eq_true_eq]
  split at hn
  · simp at hn; omega
  · split at hn
    · simp at hn; omega
    · simp at hn
theorem nxt_gap {p0 p1 a0 a1 n0 n1 : Int} {nb : Bool} (hn : nxt p0 p1 = (n0, n1, nb)) (h : nb = true) (hp1 : p1 ≤ 9223372036854775807) (ha1 : -9223372036854775808 ≤ a1) (ha2 : a1 ≤ 9223372036854775807) (k : lexLt p0 p1 a0 a1 = true) : lexLt a0 a1 n0 n1 = false := by
  subst h
  unfold nxt at hn
  simp only [lexLt, decide_eq_true_eq, decide_eq_false_iff_not] at k ⊢
  split at hn
  · simp at hn; omega
  · split at hn
    · simp at hn; omega
    · simp at hn
theorem within_self {p0 p1 n0 n1 : Int} (h : lexLt p0 p1 n0 n1 = true) : (!lexLt p0 p1 p0 p1 && lexLt p0 p1 n0 n1) = true := by rw [lex_irr, h]; rfl
end Go.Proofs.Ytgedckgkddpkkaa.PPlaceOrders
